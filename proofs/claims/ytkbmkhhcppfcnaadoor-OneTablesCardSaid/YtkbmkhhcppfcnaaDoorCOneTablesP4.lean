/- The law OneTables returns true for every input, and its arguments read as before: the tied card. No conditions. This is part 4 of 6 of its proof; the parts are read in order. No conditions. -/
import Derived.Test.YtkbmkhhcppfcnaaDoorCOneTablesP3
import Derived.Shelf.LaysM
import Derived.Shelf.Strconv.Itoa3
import Derived.Shelf.LaysC
import Derived.Shelf.Strconv.AtoiAll
import Derived.Shelf.Strings.Repeat
import Derived.Test.YtkbmkhhcppfcnaaDoorProg
import Derived.Lib.ItoaNum
import Derived.Lib.Atoi
import Derived.Lib.Repeat
import Derived.Lib.AppendIntMem
import Derived.Lib.AtoiErrMem
import Derived.Lib.AtoiTie
section
namespace Go.Proofs
open Go.Shelf
open Go.RowKit Go.Sort Go.Lib in
open Go.RowKit Go.Sort Go.Lib in
open Go.RowKit Go.Sort Go.Lib in
open Go.RowKit Go.Sort Go.Lib in
def Tryd.laysM171_ren : Go.Shelf.Ren := ⟨fun | 171 => 98 | 243 => 129 | 246 => 139 | 283 => 147 | 284 => 148 | 285 => 149 | 286 => 150 | 129 => 154 | 317 => 153 | 318 => 155 | 319 => 156 | 320 => 157 | 337 => 158 | 338 => 159 | n => n, fun | 3 => 3 | 9 => 9 | 2 => 2 | 4 => 4 | 171 => 174 | 0 => 0 | 53 => 155 | 37 => 22 | 5 => 5 | 173 => 177 | 212 => 181 | 51 => 163 | 20 => 20 | 213 => 182 | 46 => 136 | 232 => 186 | 233 => 187 | n => n, fun | 17 => 2 | 18 => 4 | 19 => 5 | n => n⟩
theorem Tryd.laysM171 : Go.Proofs.LaysM.n171 Tryd.prog Tryd.laysM171_ren := {
  mixed := by kernel_rfl
  f129 := Tryd.func154.trans (congrArg some (by kernel_rfl))
  f171 := Tryd.func98.trans (congrArg some (by kernel_rfl))
  f243 := Tryd.func129.trans (congrArg some (by kernel_rfl))
  f246 := Tryd.func139.trans (congrArg some (by kernel_rfl))
  f283 := Tryd.func147.trans (congrArg some (by kernel_rfl))
  f284 := Tryd.func148.trans (congrArg some (by kernel_rfl))
  f285 := Tryd.func149.trans (congrArg some (by kernel_rfl))
  f286 := Tryd.func150.trans (congrArg some (by kernel_rfl))
  f317 := Tryd.func153.trans (congrArg some (by kernel_rfl))
  f318 := Tryd.func155.trans (congrArg some (by kernel_rfl))
  f319 := Tryd.func156.trans (congrArg some (by kernel_rfl))
  f320 := Tryd.func157.trans (congrArg some (by kernel_rfl))
  f337 := Tryd.func158.trans (congrArg some (by kernel_rfl))
  f338 := Tryd.func159.trans (congrArg some (by kernel_rfl))
  t0 := Tryd.underlying0
  a0 := Tryd.isAgg0
  z0 := Tryd.sizeOf0
  v0 := Tryd.zeroValue0
  t2 := Tryd.underlying2
  a2 := Tryd.isAgg2
  z2 := Tryd.sizeOf2
  v2 := Tryd.zeroValue2
  t3 := Tryd.underlying3
  a3 := Tryd.isAgg3
  z3 := Tryd.sizeOf3
  v3 := Tryd.zeroValue3
  t4 := Tryd.underlying4
  a4 := Tryd.isAgg4
  z4 := Tryd.sizeOf4
  v4 := Tryd.zeroValue4
  t5 := Tryd.underlying5
  a5 := Tryd.isAgg5
  z5 := Tryd.sizeOf5
  v5 := Tryd.zeroValue5
  t9 := Tryd.underlying9
  a9 := Tryd.isAgg9
  z9 := Tryd.sizeOf9
  v9 := Tryd.zeroValue9
  t20 := Tryd.underlying20
  a20 := Tryd.isAgg20
  z20 := Tryd.sizeOf20
  v20 := Tryd.zeroValue20
  t37 := Tryd.underlying22
  a37 := Tryd.isAgg22
  z37 := Tryd.sizeOf22
  v37 := Tryd.zeroValue22
  t46 := Tryd.underlying136
  a46 := Tryd.isAgg136
  z46 := Tryd.sizeOf136
  v46 := Tryd.zeroValue136
  t51 := Tryd.underlying163
  a51 := Tryd.isAgg163
  z51 := Tryd.sizeOf163
  v51 := Tryd.zeroValue163
  t53 := Tryd.underlying155
  a53 := Tryd.isAgg155
  z53 := Tryd.sizeOf155
  v53 := Tryd.zeroValue155
  t171 := Tryd.underlying174
  a171 := Tryd.isAgg174
  z171 := Tryd.sizeOf174
  v171 := Tryd.zeroValue174
  t173 := Tryd.underlying177
  a173 := Tryd.isAgg177
  z173 := Tryd.sizeOf177
  v173 := Tryd.zeroValue177
  t212 := Tryd.underlying181
  a212 := Tryd.isAgg181
  z212 := Tryd.sizeOf181
  v212 := Tryd.zeroValue181
  t213 := Tryd.underlying182
  a213 := Tryd.isAgg182
  z213 := Tryd.sizeOf182
  t232 := Tryd.underlying186
  a232 := Tryd.isAgg186
  z232 := Tryd.sizeOf186
  v232 := Tryd.zeroValue186
  t233 := Tryd.underlying187
  a233 := Tryd.isAgg187
  z233 := Tryd.sizeOf187
  v233 := Tryd.zeroValue187
  g17 := by kernel_rfl
  g18 := by kernel_rfl
  g19 := by kernel_rfl
  i0 := by kernel_rfl
  i2 := by kernel_rfl
  i3 := by kernel_rfl
  i4 := by kernel_rfl
  i5 := by kernel_rfl
  i9 := by kernel_rfl
  i20 := by kernel_rfl
  i37 := by kernel_rfl
  i46 := by kernel_rfl
  i51 := by kernel_rfl
  i53 := by kernel_rfl
  i171 := by kernel_rfl
  i173 := by kernel_rfl
  i212 := by kernel_rfl
  i232 := by kernel_rfl
  i233 := by kernel_rfl
  m17 := by kernel_rfl
  m18 := by kernel_rfl
  m19 := by kernel_rfl }
open Go.RowKit Go.Sort Go.Lib in
theorem Tryd.strconv_Itoa (n : Int) (h0 : -9223372036854775808 ≤ n) (h1 : n ≤ 9223372036854775807) (w : World) (htab : Lib.TabIs Tryd.prog w "internal/strconv.uint64pow10" .u64 Lib.pow10Tab) :
    Calls Tryd.prog 98 #[.int .i64 n] w fun e w' => e = .returned (.string ⟨(Lib.itoa n).toArray⟩) ∧ ∃ k os, w' = grow (w.drewN k) os := Any.strconv_Itoa Tryd.laysM171 n h0 h1 w htab
open Go.RowKit Go.Sort Go.Lib in
def Tryd.laysC172_ren : Go.Shelf.Ren := ⟨fun | 172 => 52 | 244 => 96 | 245 => 97 | 247 => 124 | 279 => 125 | 280 => 126 | 281 => 127 | 282 => 128 | 287 => 136 | 316 => 137 | 171 => 98 | 205 => 138 | 321 => 145 | 322 => 146 | 243 => 129 | 246 => 139 | 283 => 147 | 284 => 148 | 285 => 149 | 286 => 150 | 129 => 154 | 317 => 153 | 318 => 155 | 319 => 156 | 320 => 157 | 337 => 158 | 338 => 159 | n => n, fun | 9 => 9 | 3 => 3 | 75 => 65 | 76 => 75 | 4 => 4 | 5 => 5 | 167 => 141 | 37 => 22 | 0 => 0 | 85 => 142 | 2 => 2 | 168 => 144 | 53 => 155 | 175 => 156 | 46 => 136 | 210 => 160 | 127 => 168 | 145 => 173 | 143 => 171 | 21 => 21 | 171 => 174 | 173 => 177 | 212 => 181 | 51 => 163 | 20 => 20 | 213 => 182 | 232 => 186 | 233 => 187 | 80 => 154 | n => n, fun | 15 => 0 | 16 => 1 | 17 => 2 | 18 => 4 | 19 => 5 | n => n⟩
theorem Tryd.laysC172 : Go.Proofs.LaysC.n172 Tryd.prog Tryd.laysC172_ren := {
  mixed := by kernel_rfl
  f129 := Tryd.func154.trans (congrArg some (by kernel_rfl))
  f171 := Tryd.func98.trans (congrArg some (by kernel_rfl))
  f172 := Tryd.func52.trans (congrArg some (by kernel_rfl))
  f205 := Tryd.func138.trans (congrArg some (by kernel_rfl))
  f243 := Tryd.func129.trans (congrArg some (by kernel_rfl))
  f244 := Tryd.func96.trans (congrArg some (by kernel_rfl))
  f245 := Tryd.func97.trans (congrArg some (by kernel_rfl))
  f246 := Tryd.func139.trans (congrArg some (by kernel_rfl))
  f247 := Tryd.func124.trans (congrArg some (by kernel_rfl))
  f279 := Tryd.func125.trans (congrArg some (by kernel_rfl))
  f280 := Tryd.func126.trans (congrArg some (by kernel_rfl))
  f281 := Tryd.func127.trans (congrArg some (by kernel_rfl))
  f282 := Tryd.func128.trans (congrArg some (by kernel_rfl))
  f283 := Tryd.func147.trans (congrArg some (by kernel_rfl))
  f284 := Tryd.func148.trans (congrArg some (by kernel_rfl))
  f285 := Tryd.func149.trans (congrArg some (by kernel_rfl))
  f286 := Tryd.func150.trans (congrArg some (by kernel_rfl))
  f287 := Tryd.func136.trans (congrArg some (by kernel_rfl))
  f316 := Tryd.func137.trans (congrArg some (by kernel_rfl))
  f317 := Tryd.func153.trans (congrArg some (by kernel_rfl))
  f318 := Tryd.func155.trans (congrArg some (by kernel_rfl))
  f319 := Tryd.func156.trans (congrArg some (by kernel_rfl))
  f320 := Tryd.func157.trans (congrArg some (by kernel_rfl))
  f321 := Tryd.func145.trans (congrArg some (by kernel_rfl))
  f322 := Tryd.func146.trans (congrArg some (by kernel_rfl))
  f337 := Tryd.func158.trans (congrArg some (by kernel_rfl))
  f338 := Tryd.func159.trans (congrArg some (by kernel_rfl))
  t0 := Tryd.underlying0
  a0 := Tryd.isAgg0
  z0 := Tryd.sizeOf0
  v0 := Tryd.zeroValue0
  t2 := Tryd.underlying2
  a2 := Tryd.isAgg2
  z2 := Tryd.sizeOf2
  v2 := Tryd.zeroValue2
  t3 := Tryd.underlying3
  a3 := Tryd.isAgg3
  z3 := Tryd.sizeOf3
  v3 := Tryd.zeroValue3
  t4 := Tryd.underlying4
  a4 := Tryd.isAgg4
  z4 := Tryd.sizeOf4
  v4 := Tryd.zeroValue4
  t5 := Tryd.underlying5
  a5 := Tryd.isAgg5
  z5 := Tryd.sizeOf5
  v5 := Tryd.zeroValue5
  t9 := Tryd.underlying9
  a9 := Tryd.isAgg9
  z9 := Tryd.sizeOf9
  v9 := Tryd.zeroValue9
  t20 := Tryd.underlying20
  a20 := Tryd.isAgg20
  z20 := Tryd.sizeOf20
  v20 := Tryd.zeroValue20
  t21 := Tryd.underlying21
  a21 := Tryd.isAgg21
  z21 := Tryd.sizeOf21
  v21 := Tryd.zeroValue21
  t37 := Tryd.underlying22
  a37 := Tryd.isAgg22
  z37 := Tryd.sizeOf22
  v37 := Tryd.zeroValue22
  t46 := Tryd.underlying136
  a46 := Tryd.isAgg136
  z46 := Tryd.sizeOf136
  v46 := Tryd.zeroValue136
  t51 := Tryd.underlying163
  a51 := Tryd.isAgg163
  z51 := Tryd.sizeOf163
  v51 := Tryd.zeroValue163
  t53 := Tryd.underlying155
  a53 := Tryd.isAgg155
  z53 := Tryd.sizeOf155
  v53 := Tryd.zeroValue155
  t75 := Tryd.underlying65
  a75 := Tryd.isAgg65
  z75 := Tryd.sizeOf65
  v75 := Tryd.zeroValue65
  t76 := Tryd.underlying75
  a76 := Tryd.isAgg75
  z76 := Tryd.sizeOf75
  v76 := Tryd.zeroValue75
  t85 := Tryd.underlying142
  a85 := Tryd.isAgg142
  z85 := Tryd.sizeOf142
  v85 := Tryd.zeroValue142
  t127 := Tryd.underlying168
  a127 := Tryd.isAgg168
  z127 := Tryd.sizeOf168
  v127 := Tryd.zeroValue168
  t143 := Tryd.underlying171
  a143 := Tryd.isAgg171
  z143 := Tryd.sizeOf171
  v143 := Tryd.zeroValue171
  t145 := Tryd.underlying173
  a145 := Tryd.isAgg173
  z145 := Tryd.sizeOf173
  v145 := Tryd.zeroValue173
  t167 := Tryd.underlying141
  a167 := Tryd.isAgg141
  z167 := Tryd.sizeOf141
  v167 := Tryd.zeroValue141
  t168 := Tryd.underlying144
  a168 := Tryd.isAgg144
  z168 := Tryd.sizeOf144
  v168 := Tryd.zeroValue144
  t171 := Tryd.underlying174
  a171 := Tryd.isAgg174
  z171 := Tryd.sizeOf174
  v171 := Tryd.zeroValue174
  t173 := Tryd.underlying177
  a173 := Tryd.isAgg177
  z173 := Tryd.sizeOf177
  v173 := Tryd.zeroValue177
  t175 := Tryd.underlying156
  a175 := Tryd.isAgg156
  z175 := Tryd.sizeOf156
  v175 := Tryd.zeroValue156
  t210 := Tryd.underlying160
  a210 := Tryd.isAgg160
  z210 := Tryd.sizeOf160
  v210 := Tryd.zeroValue160
  t212 := Tryd.underlying181
  a212 := Tryd.isAgg181
  z212 := Tryd.sizeOf181
  v212 := Tryd.zeroValue181
  t213 := Tryd.underlying182
  a213 := Tryd.isAgg182
  z213 := Tryd.sizeOf182
  t232 := Tryd.underlying186
  a232 := Tryd.isAgg186
  z232 := Tryd.sizeOf186
  v232 := Tryd.zeroValue186
  t233 := Tryd.underlying187
  a233 := Tryd.isAgg187
  z233 := Tryd.sizeOf187
  v233 := Tryd.zeroValue187
  g15 := by kernel_rfl
  g16 := by kernel_rfl
  g17 := by kernel_rfl
  g18 := by kernel_rfl
  g19 := by kernel_rfl
  t80 := Tryd.underlying154
  a80 := Tryd.isAgg154
  z80 := Tryd.sizeOf154
  v80 := Tryd.zeroValue154
  i0 := by kernel_rfl
  i2 := by kernel_rfl
  i3 := by kernel_rfl
  i4 := by kernel_rfl
  i5 := by kernel_rfl
  i9 := by kernel_rfl
  i20 := by kernel_rfl
  i21 := by kernel_rfl
  i37 := by kernel_rfl
  i46 := by kernel_rfl
  i51 := by kernel_rfl
  i53 := by kernel_rfl
  i75 := by kernel_rfl
  i76 := by kernel_rfl
  i80 := by kernel_rfl
  i85 := by kernel_rfl
  i127 := by kernel_rfl
  i143 := by kernel_rfl
  i145 := by kernel_rfl
  i167 := by kernel_rfl
  i168 := by kernel_rfl
  i171 := by kernel_rfl
  i173 := by kernel_rfl
  i175 := by kernel_rfl
  i210 := by kernel_rfl
  i212 := by kernel_rfl
  i232 := by kernel_rfl
  i233 := by kernel_rfl
  m15 := by kernel_rfl
  m16 := by kernel_rfl
  m17 := by kernel_rfl
  m18 := by kernel_rfl
  m19 := by kernel_rfl
  c0 := by kernel_rfl
  c2 := by kernel_rfl
  c3 := by kernel_rfl
  c4 := by kernel_rfl
  c5 := by kernel_rfl
  c9 := by kernel_rfl
  c20 := by kernel_rfl
  c21 := by kernel_rfl
  c37 := by kernel_rfl
  c46 := by kernel_rfl
  c51 := by kernel_rfl
  c53 := by kernel_rfl
  c75 := by kernel_rfl
  c76 := by kernel_rfl
  c80 := by kernel_rfl
  c85 := by kernel_rfl
  c127 := by kernel_rfl
  c143 := by kernel_rfl
  c145 := by kernel_rfl
  c167 := by kernel_rfl
  c168 := by kernel_rfl
  c171 := by kernel_rfl
  c173 := by kernel_rfl
  c175 := by kernel_rfl
  c210 := by kernel_rfl
  c212 := by kernel_rfl
  c213 := by kernel_rfl
  c232 := by kernel_rfl
  c233 := by kernel_rfl }
open Go.RowKit in
theorem Tryd.strconv_Atoi_ok (s : ByteArray) (hmax : s.size ≤ 9223372036854775806) (v : Int) (h : Lib.atoiAll s.data.toList = .ok v) (w : World) :
    Calls Tryd.prog 52 #[.string s] w fun e w' => e = .returned (.tuple #[.int .i64 v, .nilIface]) ∧ (w' = w ∨ ∃ t, w' = Lib.bytesWorld w 5 t) := Any.strconv_Atoi_ok Tryd.laysC172 s hmax v h w
open Go.RowKit in
theorem Tryd.strconv_Atoi_range (s : ByteArray) (hlim : s.size ≤ 281474976710656) (h : Lib.atoiAll s.data.toList = .range) (ev : Value) (w : World) (hv : w.cell? ⟨1, 0, none⟩ = some ev) (hev : ev = .nilIface ∨ ∃ te pe, ev = .iface te pe) :
    Calls Tryd.prog 52 #[.string s] w fun e w' => ∃ N, e = .returned (.tuple #[.int .i64 (Lib.atoiSat s.data.toList), .iface 144 (.pointer (some ⟨N, 0, none⟩))]) ∧ w.heap.size ≤ N ∧ w'.heap[N]? = some (.cells #[.string ⟨#[65, 116, 111, 105]⟩, .string s, ev] 160 (0, 0)) ∧ Below w.heap.size w w' := Any.strconv_Atoi_range Tryd.laysC172 s hlim h ev w hv hev
def Tryd.lays105_ren : Go.Shelf.Ren := ⟨fun | 105 => 122 | 212 => 130 | 99 => 131 | 165 => 132 | 166 => 133 | 170 => 134 | 169 => 135 | 263 => 140 | 264 => 141 | 206 => 142 | 240 => 143 | 241 => 144 | 276 => 151 | 277 => 152 | n => n, fun | 9 => 9 | 3 => 3 | 4 => 4 | 20 => 20 | 0 => 0 | 46 => 136 | 109 => 147 | 5 => 5 | 72 => 152 | 76 => 75 | 51 => 163 | 146 => 164 | 53 => 155 | 148 => 166 | 70 => 150 | 37 => 22 | 75 => 65 | 127 => 168 | 164 => 179 | 80 => 154 | n => n, fun | n => n⟩
theorem Tryd.lays105 : Go.Proofs.Lays.n105 Tryd.prog Tryd.lays105_ren := {
  mixed := by kernel_rfl
  f99 := Tryd.func131.trans (congrArg some (by kernel_rfl))
  f105 := Tryd.func122.trans (congrArg some (by kernel_rfl))
  f165 := Tryd.func132.trans (congrArg some (by kernel_rfl))
  f166 := Tryd.func133.trans (congrArg some (by kernel_rfl))
  f169 := Tryd.func135.trans (congrArg some (by kernel_rfl))
  f170 := Tryd.func134.trans (congrArg some (by kernel_rfl))
  f206 := Tryd.func142.trans (congrArg some (by kernel_rfl))
  f212 := Tryd.func130.trans (congrArg some (by kernel_rfl))
  f240 := Tryd.func143.trans (congrArg some (by kernel_rfl))
  f241 := Tryd.func144.trans (congrArg some (by kernel_rfl))
  f263 := Tryd.func140.trans (congrArg some (by kernel_rfl))
  f264 := Tryd.func141.trans (congrArg some (by kernel_rfl))
  f276 := Tryd.func151.trans (congrArg some (by kernel_rfl))
  f277 := Tryd.func152.trans (congrArg some (by kernel_rfl))
  t0 := Tryd.underlying0
  a0 := Tryd.isAgg0
  z0 := Tryd.sizeOf0
  v0 := Tryd.zeroValue0
  t3 := Tryd.underlying3
  a3 := Tryd.isAgg3
  z3 := Tryd.sizeOf3
  v3 := Tryd.zeroValue3
  t4 := Tryd.underlying4
  a4 := Tryd.isAgg4
  z4 := Tryd.sizeOf4
  v4 := Tryd.zeroValue4
  t5 := Tryd.underlying5
  a5 := Tryd.isAgg5
  z5 := Tryd.sizeOf5
  v5 := Tryd.zeroValue5
  t9 := Tryd.underlying9
  a9 := Tryd.isAgg9
  z9 := Tryd.sizeOf9
  v9 := Tryd.zeroValue9
  t20 := Tryd.underlying20
  a20 := Tryd.isAgg20
  z20 := Tryd.sizeOf20
  v20 := Tryd.zeroValue20
  t37 := Tryd.underlying22
  a37 := Tryd.isAgg22
  z37 := Tryd.sizeOf22
  v37 := Tryd.zeroValue22
  t46 := Tryd.underlying136
  a46 := Tryd.isAgg136
  z46 := Tryd.sizeOf136
  v46 := Tryd.zeroValue136
  t51 := Tryd.underlying163
  a51 := Tryd.isAgg163
  z51 := Tryd.sizeOf163
  v51 := Tryd.zeroValue163
  t53 := Tryd.underlying155
  a53 := Tryd.isAgg155
  z53 := Tryd.sizeOf155
  v53 := Tryd.zeroValue155
  t70 := Tryd.underlying150
  a70 := Tryd.isAgg150
  z70 := Tryd.sizeOf150
  v70 := Tryd.zeroValue150
  t72 := Tryd.underlying152
  a72 := Tryd.isAgg152
  z72 := Tryd.sizeOf152
  v72 := Tryd.zeroValue152
  t75 := Tryd.underlying65
  a75 := Tryd.isAgg65
  z75 := Tryd.sizeOf65
  v75 := Tryd.zeroValue65
  t76 := Tryd.underlying75
  a76 := Tryd.isAgg75
  z76 := Tryd.sizeOf75
  v76 := Tryd.zeroValue75
  t109 := Tryd.underlying147
  a109 := Tryd.isAgg147
  z109 := Tryd.sizeOf147
  v109 := Tryd.zeroValue147
  t127 := Tryd.underlying168
  a127 := Tryd.isAgg168
  z127 := Tryd.sizeOf168
  v127 := Tryd.zeroValue168
  t146 := Tryd.underlying164
  a146 := Tryd.isAgg164
  z146 := Tryd.sizeOf164
  v146 := Tryd.zeroValue164
  t148 := Tryd.underlying166
  a148 := Tryd.isAgg166
  z148 := Tryd.sizeOf166
  v148 := Tryd.zeroValue166
  t164 := Tryd.underlying179
  a164 := Tryd.isAgg179
  z164 := Tryd.sizeOf179
  v164 := Tryd.zeroValue179 }
theorem Tryd.Builder_Extra_105 : Builder.Extra Tryd.prog Tryd.lays105_ren := {
  sizeBuilder := by kernel_rfl
  liesBuilder := by kernel_rfl
  t5 := Tryd.underlying5
  a5 := Tryd.isAgg5
  z5 := Tryd.sizeOf5
  v5 := Tryd.zeroValue5
  infoByte := by kernel_rfl
  cellsByte := by kernel_rfl
  sizeByte := by kernel_rfl
  neB5 := by decide }
open Go.RowKit Go.Lib in
open Go.RowKit Go.Lib in
open Go.RowKit Go.Lib in
open Go.RowKit Go.Lib in
open Go.RowKit Go.Lib in
open Go.RowKit Go.Lib in
open Go.RowKit Go.Lib in
theorem Tryd.strings_Repeat (s : ByteArray) (c : Nat) (w : World) (hc : c ≤ 9223372036854775807) (hlen : s.size * c ≤ 140737488355328) :
    Calls Tryd.prog 122 #[.string s, .int .i64 c] w fun e w' => e = .returned (.string ⟨(Lib.repeatL s.data.toList c).toArray⟩) ∧ Below w.heap.size w w' := Any.strings_Repeat Tryd.lays105 Tryd.Builder_Extra_105 s c w hc hlen
end Go.Proofs
end
section
set_option linter.unusedVariables false
namespace Go.Al
open Go
def dig (n : Nat) : UInt8 := UInt8.ofNat (48 + n % 10)
def dN : Nat → Nat → List UInt8
  | 0, _ => []
  | k + 1, n => dN k (n / 10) ++ [dig n]
theorem dN_length : ∀ k n, (dN k n).length = k
  | 0, _ => rfl
  | k + 1, n => by simp [dN, dN_length k]
theorem dN_zero : ∀ k, dN k 0 = List.replicate k 48
  | 0 => rfl
  | k + 1 => by
    rw [dN, Nat.zero_div, dN_zero k, List.replicate_succ']; rfl
theorem dec_big {n : Nat} (h : ¬ n < 10) : Lib.decDigits n = Lib.decDigits (n / 10) ++ [dig n] := by
  rw [Lib.decDigits, dif_neg h]; rfl
theorem dec_small {n : Nat} (h : n < 10) : Lib.decDigits n = [dig n] := by
  rw [Lib.decDigits, dif_pos h, dig, Nat.mod_eq_of_lt h]
theorem dec_pad : ∀ (k n : Nat), n < 10 ^ (k + 1) → (Lib.decDigits n).length ≤ k + 1 ∧ List.replicate (k + 1 - (Lib.decDigits n).length) 48 ++ Lib.decDigits n = dN (k + 1) n := by
  intro k
  induction k with
  | zero =>
    intro n h
    have h1 : n < 10 := by simpa using h
    rw [dec_small h1]
    simp [dN]
  | succ k ih =>
    intro n h
    by_cases h1 : n < 10
    · rw [dec_small h1]
      refine ⟨by simp, ?_⟩
      rw [dN, Nat.div_eq_of_lt h1, dN_zero]
      simp
    · rw [dec_big h1]
      obtain ⟨h2, h3⟩ := ih (n / 10) (by rw [Nat.pow_succ] at h; omega)
      refine ⟨by simp; exact h2, ?_⟩
      rw [dN, ← h3, List.length_append, ← List.append_assoc]
      simp
def cl (n : Int) : Nat := (max 0 (min n 9999999999)).toNat
theorem cl_lt (n : Int) : cl n < 10 ^ 10 := by unfold cl; omega
def rkey (v : Nat) (t : UInt8) (id seq : Int) : List UInt8 := [UInt8.ofNat (48 + v), t] ++ dN 10 (cl id) ++ dN 10 (cl seq)
theorem rkey_length (v : Nat) (t : UInt8) (id seq : Int) : (rkey v t id seq).length = 22 := by simp [rkey, dN_length]
theorem digitVal_dig (n : Nat) : Lib.digitVal (dig n) = some (n % 10) := by
  have e : (dig n).toNat = 48 + n % 10 := by simp [dig]; omega
  rw [Lib.digitVal, e, if_pos (by omega)]; simp
theorem decFrom_append : ∀ (a b : List UInt8) (acc m : Nat), Lib.decFrom acc a = some m → Lib.decFrom acc (a ++ b) = Lib.decFrom m b
  | [], b, acc, m, h => by simp only [Lib.decFrom, Option.some.injEq] at h; subst h; rfl
  | x :: a, b, acc, m, h => by
    simp only [List.cons_append, Lib.decFrom] at h ⊢
    cases hx : Lib.digitVal x with
    | none => simp [hx] at h
    | some d => simp only [hx] at h ⊢; exact decFrom_append a b _ m h
theorem decFrom_dN : ∀ (k n acc : Nat), Lib.decFrom acc (dN k n) = some (acc * 10 ^ k + n % 10 ^ k)
  | 0, n, acc => by simp [dN, Lib.decFrom, Nat.mod_one]
  | k + 1, n, acc => by
    rw [dN, decFrom_append _ _ _ _ (decFrom_dN k (n / 10) acc)]
    simp only [Lib.decFrom, digitVal_dig, Option.some.injEq]
    have h1 : n % 10 ^ (k + 1) = n / 10 % 10 ^ k * 10 + n % 10 := by
      rw [Nat.pow_succ, Nat.mul_comm (10 ^ k) 10, Nat.mod_mul, Nat.mul_comm 10, Nat.add_comm]
    rw [h1, Nat.pow_succ, ← Nat.mul_assoc, Nat.add_mul]; omega
theorem dig_ge (n : Nat) : 48 ≤ (dig n).toNat ∧ (dig n).toNat ≤ 57 := by
  have e : (dig n).toNat = 48 + n % 10 := by simp [dig]; omega
  omega
theorem dN_digits : ∀ (k n : Nat), ∀ b ∈ dN k n, 48 ≤ b.toNat ∧ b.toNat ≤ 57
  | 0, n, b, h => by simp [dN] at h
  | k + 1, n, b, h => by
    rw [dN, List.mem_append] at h
    rcases h with h | h
    · exact dN_digits k _ b h
    · obtain rfl : b = dig n := by simpa using h
      exact dig_ge n
theorem atoi_dN (k n : Nat) (h : n < 10 ^ (k + 1)) : Lib.atoi (dN (k + 1) n) = some n := by
  have hd := dN_digits (k + 1) n
  have hf := decFrom_dN (k + 1) n 0
  have hl := dN_length (k + 1) n
  generalize dN (k + 1) n = l at hd hf hl
  cases l with
  | nil => simp at hl
  | cons b r =>
    have h1 := hd b (by simp)
    have n1 : (b == 45) = false := by
      rw [beq_eq_false_iff_ne]; rintro rfl; simp at h1
    have n2 : (b == 43) = false := by
      rw [beq_eq_false_iff_ne]; rintro rfl; simp at h1
    rw [Lib.atoi, n1, n2]
    simp only [Bool.false_eq_true, if_false, Lib.decNat, List.isEmpty_cons, hf, Option.map_some]
    simp [Nat.mod_eq_of_lt h]
end Go.Al
end
section
set_option linter.unusedVariables false
namespace Go.Proofs.YtkbmkhhcppfcnaaDoor.Ty
open Go.Al
theorem mixed : Tryd.prog.follows .mixedOrders = true := by kernel_rfl
theorem size1 : (Tryd.prog.info? 1).map (·.size) = some 1 := by kernel_rfl
theorem size2 : (Tryd.prog.info? 2).map (·.size) = some 1 := by kernel_rfl
theorem size3 : (Tryd.prog.info? 3).map (·.size) = some 1 := by kernel_rfl
theorem zero3 : (Tryd.prog.info? 3).bind (·.zero) = some (.int .i64 0) := by kernel_rfl
theorem size4 : (Tryd.prog.info? 4).map (·.size) = some 1 := by kernel_rfl
theorem size5 : (Tryd.prog.info? 5).map (·.size) = some 1 := by kernel_rfl
theorem zero5 : (Tryd.prog.info? 5).bind (·.zero) = some (.int .u8 0) := by kernel_rfl
theorem size9 : (Tryd.prog.info? 9).map (·.size) = some 1 := by kernel_rfl
theorem zero9 : (Tryd.prog.info? 9).bind (·.zero) = some (.string ⟨#[]⟩) := by kernel_rfl
theorem size20 : (Tryd.prog.info? 20).map (·.size) = some 1 := by kernel_rfl
theorem zero20 : (Tryd.prog.info? 20).bind (·.zero) = some .nilIface := by kernel_rfl
theorem size21 : (Tryd.prog.info? 21).map (·.size) = some 1 := by kernel_rfl
theorem size22 : (Tryd.prog.info? 22).map (·.size) = some 1 := by kernel_rfl
theorem size24 : (Tryd.prog.info? 24).map (·.size) = some 1 := by kernel_rfl
theorem size25 : (Tryd.prog.info? 25).map (·.size) = some 1 := by kernel_rfl
theorem size27 : (Tryd.prog.info? 27).map (·.size) = some 10 := by kernel_rfl
theorem zero27 : (Tryd.prog.info? 27).bind (·.zero) = some (.agg #[(.int .i64 0), (.string ⟨#[]⟩), (.string ⟨#[]⟩), (.string ⟨#[]⟩), (.int .i64 0), (.int .i64 0), (.int .i64 0), (.slice none 0 0), (.slice none 0 0), (.string ⟨#[]⟩)]) := by kernel_rfl
theorem size30 : (Tryd.prog.info? 30).map (·.size) = some 1 := by kernel_rfl
theorem size33 : (Tryd.prog.info? 33).map (·.size) = some 1 := by kernel_rfl
theorem zero33 : (Tryd.prog.info? 33).bind (·.zero) = some (.int .u16 0) := by kernel_rfl
theorem size34 : (Tryd.prog.info? 34).map (·.size) = some 1 := by kernel_rfl
theorem size43 : (Tryd.prog.info? 43).map (·.size) = some 2 := by kernel_rfl
theorem zero43 : (Tryd.prog.info? 43).bind (·.zero) = some (.agg #[(.string ⟨#[]⟩), (.slice none 0 0)]) := by kernel_rfl
theorem size46 : (Tryd.prog.info? 46).map (·.size) = some 8 := by kernel_rfl
theorem zero46 : (Tryd.prog.info? 46).bind (·.zero) = some (.agg #[(.int .i64 0), (.string ⟨#[]⟩), (.string ⟨#[]⟩), (.int .i64 0), (.int .i64 0), (.bool false), (.string ⟨#[]⟩), (.int .i64 0)]) := by kernel_rfl
theorem size48 : (Tryd.prog.info? 48).map (·.size) = some 1 := by kernel_rfl
theorem size51 : (Tryd.prog.info? 51).map (·.size) = some 1 := by kernel_rfl
theorem size61 : (Tryd.prog.info? 61).map (·.size) = some 1 := by kernel_rfl
theorem size63 : (Tryd.prog.info? 63).map (·.size) = some 2 := by kernel_rfl
theorem zero63 : (Tryd.prog.info? 63).bind (·.zero) = some (.agg #[(.slice none 0 0), (.int .i64 0)]) := by kernel_rfl
theorem size65 : (Tryd.prog.info? 65).map (·.size) = some 1 := by kernel_rfl
theorem size67 : (Tryd.prog.info? 67).map (·.size) = some 3 := by kernel_rfl
theorem zero67 : (Tryd.prog.info? 67).bind (·.zero) = some (.agg #[(.slice none 0 0), (.int .i64 0), .nilIface]) := by kernel_rfl
theorem size71 : (Tryd.prog.info? 71).map (·.size) = some 1 := by kernel_rfl
theorem size79 : (Tryd.prog.info? 79).map (·.size) = some 1 := by kernel_rfl
theorem size82 : (Tryd.prog.info? 82).map (·.size) = some 1 := by kernel_rfl
theorem size84 : (Tryd.prog.info? 84).map (·.size) = some 12 := by kernel_rfl
theorem zero84 : (Tryd.prog.info? 84).bind (·.zero) = some (.agg #[(.int .i64 0), (.string ⟨#[]⟩), (.string ⟨#[]⟩), (.string ⟨#[]⟩), (.int .i64 0), (.int .i64 0), (.int .i64 0), (.slice none 0 0), (.slice none 0 0), (.string ⟨#[]⟩), (.int .i64 0), (.pointer none)]) := by kernel_rfl
theorem size85 : (Tryd.prog.info? 85).map (·.size) = some 1 := by kernel_rfl
theorem size87 : (Tryd.prog.info? 87).map (·.size) = some 3 := by kernel_rfl
theorem zero87 : (Tryd.prog.info? 87).bind (·.zero) = some (.agg #[(.slice none 0 0), (.int .i64 0), (.bool false)]) := by kernel_rfl
theorem size90 : (Tryd.prog.info? 90).map (·.size) = some 1 := by kernel_rfl
theorem size91 : (Tryd.prog.info? 91).map (·.size) = some 1 := by kernel_rfl
theorem size96 : (Tryd.prog.info? 96).map (·.size) = some 1 := by kernel_rfl
theorem size98 : (Tryd.prog.info? 98).map (·.size) = some 2 := by kernel_rfl
theorem zero98 : (Tryd.prog.info? 98).bind (·.zero) = some (.agg #[(.int .u8 0), .nilFunc]) := by kernel_rfl
theorem size99 : (Tryd.prog.info? 99).map (·.size) = some 12 := by kernel_rfl
theorem zero99 : (Tryd.prog.info? 99).bind (·.zero) = some (.agg #[(.int .u8 0), .nilFunc, (.int .u8 0), .nilFunc, (.int .u8 0), .nilFunc, (.int .u8 0), .nilFunc, (.int .u8 0), .nilFunc, (.int .u8 0), .nilFunc]) := by kernel_rfl
theorem size101 : (Tryd.prog.info? 101).map (·.size) = some 1 := by kernel_rfl
theorem size102 : (Tryd.prog.info? 102).map (·.size) = some 1 := by kernel_rfl
theorem size104 : (Tryd.prog.info? 104).map (·.size) = some 1 := by kernel_rfl
theorem size106 : (Tryd.prog.info? 106).map (·.size) = some 3 := by kernel_rfl
theorem zero106 : (Tryd.prog.info? 106).bind (·.zero) = some (.agg #[(.slice none 0 0), (.int .i64 0), (.bool false)]) := by kernel_rfl
theorem size109 : (Tryd.prog.info? 109).map (·.size) = some 1 := by kernel_rfl
theorem size113 : (Tryd.prog.info? 113).map (·.size) = some 3 := by kernel_rfl
theorem zero113 : (Tryd.prog.info? 113).bind (·.zero) = some (.agg #[(.string ⟨#[]⟩), (.string ⟨#[]⟩), (.string ⟨#[]⟩)]) := by kernel_rfl
theorem size117 : (Tryd.prog.info? 117).map (·.size) = some 1 := by kernel_rfl
theorem size118 : (Tryd.prog.info? 118).map (·.size) = some 1 := by kernel_rfl
theorem size124 : (Tryd.prog.info? 124).map (·.size) = some 1 := by kernel_rfl
theorem size127 : (Tryd.prog.info? 127).map (·.size) = some 1 := by kernel_rfl
theorem size128 : (Tryd.prog.info? 128).map (·.size) = some 1 := by kernel_rfl
theorem size134 : (Tryd.prog.info? 134).map (·.size) = some 1 := by kernel_rfl
theorem size136 : (Tryd.prog.info? 136).map (·.size) = some 1 := by kernel_rfl
theorem size140 : (Tryd.prog.info? 140).map (·.size) = some 1 := by kernel_rfl
theorem zero140 : (Tryd.prog.info? 140).bind (·.zero) = some (.agg #[(.int .u16 0)]) := by kernel_rfl
theorem size141 : (Tryd.prog.info? 141).map (·.size) = some 1 := by kernel_rfl
theorem size144 : (Tryd.prog.info? 144).map (·.size) = some 1 := by kernel_rfl
theorem size150 : (Tryd.prog.info? 150).map (·.size) = some 1 := by kernel_rfl
theorem size152 : (Tryd.prog.info? 152).map (·.size) = some 2 := by kernel_rfl
theorem size155 : (Tryd.prog.info? 155).map (·.size) = some 1 := by kernel_rfl
theorem size160 : (Tryd.prog.info? 160).map (·.size) = some 3 := by kernel_rfl
theorem zero160 : (Tryd.prog.info? 160).bind (·.zero) = some (.agg #[(.string ⟨#[]⟩), (.string ⟨#[]⟩), .nilIface]) := by kernel_rfl
theorem size163 : (Tryd.prog.info? 163).map (·.size) = some 1 := by kernel_rfl
theorem size168 : (Tryd.prog.info? 168).map (·.size) = some 1 := by kernel_rfl
theorem size171 : (Tryd.prog.info? 171).map (·.size) = some 1 := by kernel_rfl
theorem size173 : (Tryd.prog.info? 173).map (·.size) = some 1 := by kernel_rfl
theorem zero173 : (Tryd.prog.info? 173).bind (·.zero) = some (.agg #[(.string ⟨#[]⟩)]) := by kernel_rfl
theorem size174 : (Tryd.prog.info? 174).map (·.size) = some 24 := by kernel_rfl
theorem zero174 : (Tryd.prog.info? 174).bind (·.zero) = some (.agg #[(.int .u8 0), (.int .u8 0), (.int .u8 0), (.int .u8 0), (.int .u8 0), (.int .u8 0), (.int .u8 0), (.int .u8 0), (.int .u8 0), (.int .u8 0), (.int .u8 0), (.int .u8 0), (.int .u8 0), (.int .u8 0), (.int .u8 0), (.int .u8 0), (.int .u8 0), (.int .u8 0), (.int .u8 0), (.int .u8 0), (.int .u8 0), (.int .u8 0), (.int .u8 0), (.int .u8 0)]) := by kernel_rfl
theorem size179 : (Tryd.prog.info? 179).map (·.size) = some 1 := by kernel_rfl
theorem size181 : (Tryd.prog.info? 181).map (·.size) = some 20 := by kernel_rfl
theorem zero181 : (Tryd.prog.info? 181).bind (·.zero) = some (.agg #[(.int .u64 0), (.int .u64 0), (.int .u64 0), (.int .u64 0), (.int .u64 0), (.int .u64 0), (.int .u64 0), (.int .u64 0), (.int .u64 0), (.int .u64 0), (.int .u64 0), (.int .u64 0), (.int .u64 0), (.int .u64 0), (.int .u64 0), (.int .u64 0), (.int .u64 0), (.int .u64 0), (.int .u64 0), (.int .u64 0)]) := by kernel_rfl
theorem size182 : (Tryd.prog.info? 182).map (·.size) = some 65 := by kernel_rfl
theorem zero182 : (Tryd.prog.info? 182).bind (·.zero) = some (.agg #[(.int .u8 0), (.int .u8 0), (.int .u8 0), (.int .u8 0), (.int .u8 0), (.int .u8 0), (.int .u8 0), (.int .u8 0), (.int .u8 0), (.int .u8 0), (.int .u8 0), (.int .u8 0), (.int .u8 0), (.int .u8 0), (.int .u8 0), (.int .u8 0), (.int .u8 0), (.int .u8 0), (.int .u8 0), (.int .u8 0), (.int .u8 0), (.int .u8 0), (.int .u8 0), (.int .u8 0), (.int .u8 0), (.int .u8 0), (.int .u8 0), (.int .u8 0), (.int .u8 0), (.int .u8 0), (.int .u8 0), (.int .u8 0), (.int .u8 0), (.int .u8 0), (.int .u8 0), (.int .u8 0), (.int .u8 0), (.int .u8 0), (.int .u8 0), (.int .u8 0), (.int .u8 0), (.int .u8 0), (.int .u8 0), (.int .u8 0), (.int .u8 0), (.int .u8 0), (.int .u8 0), (.int .u8 0), (.int .u8 0), (.int .u8 0), (.int .u8 0), (.int .u8 0), (.int .u8 0), (.int .u8 0), (.int .u8 0), (.int .u8 0), (.int .u8 0), (.int .u8 0), (.int .u8 0), (.int .u8 0), (.int .u8 0), (.int .u8 0), (.int .u8 0), (.int .u8 0), (.int .u8 0)]) := by kernel_rfl
theorem size186 : (Tryd.prog.info? 186).map (·.size) = some 32 := by kernel_rfl
theorem zero186 : (Tryd.prog.info? 186).bind (·.zero) = some (.agg #[(.int .u8 0), (.int .u8 0), (.int .u8 0), (.int .u8 0), (.int .u8 0), (.int .u8 0), (.int .u8 0), (.int .u8 0), (.int .u8 0), (.int .u8 0), (.int .u8 0), (.int .u8 0), (.int .u8 0), (.int .u8 0), (.int .u8 0), (.int .u8 0), (.int .u8 0), (.int .u8 0), (.int .u8 0), (.int .u8 0), (.int .u8 0), (.int .u8 0), (.int .u8 0), (.int .u8 0), (.int .u8 0), (.int .u8 0), (.int .u8 0), (.int .u8 0), (.int .u8 0), (.int .u8 0), (.int .u8 0), (.int .u8 0)]) := by kernel_rfl
theorem size187 : (Tryd.prog.info? 187).map (·.size) = some 64 := by kernel_rfl
theorem zero187 : (Tryd.prog.info? 187).bind (·.zero) = some (.agg #[(.int .u8 0), (.int .u8 0), (.int .u8 0), (.int .u8 0), (.int .u8 0), (.int .u8 0), (.int .u8 0), (.int .u8 0), (.int .u8 0), (.int .u8 0), (.int .u8 0), (.int .u8 0), (.int .u8 0), (.int .u8 0), (.int .u8 0), (.int .u8 0), (.int .u8 0), (.int .u8 0), (.int .u8 0), (.int .u8 0), (.int .u8 0), (.int .u8 0), (.int .u8 0), (.int .u8 0), (.int .u8 0), (.int .u8 0), (.int .u8 0), (.int .u8 0), (.int .u8 0), (.int .u8 0), (.int .u8 0), (.int .u8 0), (.int .u8 0), (.int .u8 0), (.int .u8 0), (.int .u8 0), (.int .u8 0), (.int .u8 0), (.int .u8 0), (.int .u8 0), (.int .u8 0), (.int .u8 0), (.int .u8 0), (.int .u8 0), (.int .u8 0), (.int .u8 0), (.int .u8 0), (.int .u8 0), (.int .u8 0), (.int .u8 0), (.int .u8 0), (.int .u8 0), (.int .u8 0), (.int .u8 0), (.int .u8 0), (.int .u8 0), (.int .u8 0), (.int .u8 0), (.int .u8 0), (.int .u8 0), (.int .u8 0), (.int .u8 0), (.int .u8 0), (.int .u8 0)]) := by kernel_rfl
-- slice 22 of 5: 1 cells, 1 bytes
-- slice 24 of 3: 1 cells, 8 bytes
-- slice 25 of 46: 8 cells, 88 bytes
-- slice 30 of 43: 2 cells, 40 bytes
-- slice 48 of 33: 1 cells, 2 bytes
-- slice 51 of 5: 1 cells, 1 bytes
-- slice 109 of 9: 1 cells, 16 bytes
-- slice 128 of 20: 1 cells, 16 bytes
end Go.Proofs.YtkbmkhhcppfcnaaDoor.Ty
end
section
set_option linter.unusedVariables false
namespace Go.Proofs.YtkbmkhhcppfcnaaDoor.Ty
open Go.Al
instance : TyA Tryd.prog 1 false := ⟨_, Tryd.underlying1, rfl⟩
instance : TyS Tryd.prog 1 1 := ⟨Ty.size1⟩
instance : TyU Tryd.prog 2 (.int .i64) := ⟨Tryd.underlying2⟩
instance : TyA Tryd.prog 2 false := ⟨_, Tryd.underlying2, rfl⟩
instance : TyS Tryd.prog 2 1 := ⟨Ty.size2⟩
instance : TyU Tryd.prog 3 (.int .i64) := ⟨Tryd.underlying3⟩
instance : TyA Tryd.prog 3 false := ⟨_, Tryd.underlying3, rfl⟩
instance : TyS Tryd.prog 3 1 := ⟨Ty.size3⟩
instance : TyU Tryd.prog 4 .bool := ⟨Tryd.underlying4⟩
instance : TyA Tryd.prog 4 false := ⟨_, Tryd.underlying4, rfl⟩
instance : TyS Tryd.prog 4 1 := ⟨Ty.size4⟩
instance : TyU Tryd.prog 5 (.int .u8) := ⟨Tryd.underlying5⟩
instance : TyA Tryd.prog 5 false := ⟨_, Tryd.underlying5, rfl⟩
instance : TyS Tryd.prog 5 1 := ⟨Ty.size5⟩
instance : TyU Tryd.prog 9 .string := ⟨Tryd.underlying9⟩
instance : TyA Tryd.prog 9 false := ⟨_, Tryd.underlying9, rfl⟩
instance : TyS Tryd.prog 9 1 := ⟨Ty.size9⟩
instance : TyA Tryd.prog 20 false := ⟨_, Tryd.underlying20, rfl⟩
instance : TyS Tryd.prog 20 1 := ⟨Ty.size20⟩
instance : TyU Tryd.prog 21 (.int .i32) := ⟨Tryd.underlying21⟩
instance : TyA Tryd.prog 21 false := ⟨_, Tryd.underlying21, rfl⟩
instance : TyS Tryd.prog 21 1 := ⟨Ty.size21⟩
instance : TyU Tryd.prog 22 (.slice 5) := ⟨Tryd.underlying22⟩
instance : TyA Tryd.prog 22 false := ⟨_, Tryd.underlying22, rfl⟩
instance : TyS Tryd.prog 22 1 := ⟨Ty.size22⟩
instance : SlI Tryd.prog 22 1 := .of (z := (.int .u8 0)) Tryd.underlying22 Ty.size5 Ty.zero5 rfl (by decide)
instance : TyU Tryd.prog 24 (.slice 3) := ⟨Tryd.underlying24⟩
instance : TyA Tryd.prog 24 false := ⟨_, Tryd.underlying24, rfl⟩
instance : TyS Tryd.prog 24 1 := ⟨Ty.size24⟩
instance : SlI Tryd.prog 24 1 := .of (z := (.int .i64 0)) Tryd.underlying24 Ty.size3 Ty.zero3 rfl (by decide)
instance : TyU Tryd.prog 25 (.slice 46) := ⟨Tryd.underlying25⟩
instance : TyA Tryd.prog 25 false := ⟨_, Tryd.underlying25, rfl⟩
instance : TyS Tryd.prog 25 1 := ⟨Ty.size25⟩
instance : SlI Tryd.prog 25 8 := .of (z := (.agg #[(.int .i64 0), (.string ⟨#[]⟩), (.string ⟨#[]⟩), (.int .i64 0), (.int .i64 0), (.bool false), (.string ⟨#[]⟩), (.int .i64 0)])) Tryd.underlying25 Ty.size46 Ty.zero46 rfl (by decide)
instance : TyA Tryd.prog 27 true := ⟨_, Tryd.underlying27, rfl⟩
instance : TyS Tryd.prog 27 10 := ⟨Ty.size27⟩
instance : BldI Tryd.prog 27 [(.int .i64 0), .str [], .str [], .str [], (.int .i64 0), (.int .i64 0), (.int .i64 0), .nils, .nils, .str []] [(0, 1), (1, 1), (2, 1), (3, 1), (4, 1), (5, 1), (6, 1), (7, 1), (8, 1), (9, 1)] := .struct (za := #[(.int .i64 0), (.string ⟨#[]⟩), (.string ⟨#[]⟩), (.string ⟨#[]⟩), (.int .i64 0), (.int .i64 0), (.int .i64 0), (.slice none 0 0), (.slice none 0 0), (.string ⟨#[]⟩)]) Tryd.underlying27 Ty.zero27 (by kernel_rfl) (by kernel_rfl) (by kernel_rfl) (by kernel_rfl)
instance : TyF Tryd.prog 27 0 3 0 1 false := ⟨_, _, _, Tryd.underlying27, rfl, rfl, rfl, Ty.size3, Tryd.underlying3, rfl⟩
instance : TyF Tryd.prog 27 1 9 1 1 false := ⟨_, _, _, Tryd.underlying27, rfl, rfl, rfl, Ty.size9, Tryd.underlying9, rfl⟩
instance : TyF Tryd.prog 27 2 9 2 1 false := ⟨_, _, _, Tryd.underlying27, rfl, rfl, rfl, Ty.size9, Tryd.underlying9, rfl⟩
instance : TyF Tryd.prog 27 3 9 3 1 false := ⟨_, _, _, Tryd.underlying27, rfl, rfl, rfl, Ty.size9, Tryd.underlying9, rfl⟩
instance : TyF Tryd.prog 27 4 3 4 1 false := ⟨_, _, _, Tryd.underlying27, rfl, rfl, rfl, Ty.size3, Tryd.underlying3, rfl⟩
instance : TyF Tryd.prog 27 5 3 5 1 false := ⟨_, _, _, Tryd.underlying27, rfl, rfl, rfl, Ty.size3, Tryd.underlying3, rfl⟩
instance : TyF Tryd.prog 27 6 3 6 1 false := ⟨_, _, _, Tryd.underlying27, rfl, rfl, rfl, Ty.size3, Tryd.underlying3, rfl⟩
instance : TyF Tryd.prog 27 7 24 7 1 false := ⟨_, _, _, Tryd.underlying27, rfl, rfl, rfl, Ty.size24, Tryd.underlying24, rfl⟩
instance : TyF Tryd.prog 27 8 25 8 1 false := ⟨_, _, _, Tryd.underlying27, rfl, rfl, rfl, Ty.size25, Tryd.underlying25, rfl⟩
instance : TyF Tryd.prog 27 9 9 9 1 false := ⟨_, _, _, Tryd.underlying27, rfl, rfl, rfl, Ty.size9, Tryd.underlying9, rfl⟩
instance : TyU Tryd.prog 30 (.slice 43) := ⟨Tryd.underlying30⟩
instance : TyA Tryd.prog 30 false := ⟨_, Tryd.underlying30, rfl⟩
instance : TyS Tryd.prog 30 1 := ⟨Ty.size30⟩
instance : SlI Tryd.prog 30 2 := .of (z := (.agg #[(.string ⟨#[]⟩), (.slice none 0 0)])) Tryd.underlying30 Ty.size43 Ty.zero43 rfl (by decide)
instance : TyU Tryd.prog 33 (.int .u16) := ⟨Tryd.underlying33⟩
instance : TyA Tryd.prog 33 false := ⟨_, Tryd.underlying33, rfl⟩
instance : TyS Tryd.prog 33 1 := ⟨Ty.size33⟩
instance : TyU Tryd.prog 34 (.int .u16) := ⟨Tryd.underlying34⟩
instance : TyA Tryd.prog 34 false := ⟨_, Tryd.underlying34, rfl⟩
instance : TyS Tryd.prog 34 1 := ⟨Ty.size34⟩
instance : TyA Tryd.prog 43 true := ⟨_, Tryd.underlying43, rfl⟩
instance : TyS Tryd.prog 43 2 := ⟨Ty.size43⟩
instance : BldI Tryd.prog 43 [.str [], .nils] [(0, 1), (1, 1)] := .struct (za := #[(.string ⟨#[]⟩), (.slice none 0 0)]) Tryd.underlying43 Ty.zero43 (by kernel_rfl) (by kernel_rfl) (by kernel_rfl) (by kernel_rfl)
instance : TyF Tryd.prog 43 0 9 0 1 false := ⟨_, _, _, Tryd.underlying43, rfl, rfl, rfl, Ty.size9, Tryd.underlying9, rfl⟩
instance : TyF Tryd.prog 43 1 22 1 1 false := ⟨_, _, _, Tryd.underlying43, rfl, rfl, rfl, Ty.size22, Tryd.underlying22, rfl⟩
instance : TyA Tryd.prog 46 true := ⟨_, Tryd.underlying46, rfl⟩
instance : TyS Tryd.prog 46 8 := ⟨Ty.size46⟩
instance : BldI Tryd.prog 46 [(.int .i64 0), .str [], .str [], (.int .i64 0), (.int .i64 0), (.bool false), .str [], (.int .i64 0)] [(0, 1), (1, 1), (2, 1), (3, 1), (4, 1), (5, 1), (6, 1), (7, 1)] := .struct (za := #[(.int .i64 0), (.string ⟨#[]⟩), (.string ⟨#[]⟩), (.int .i64 0), (.int .i64 0), (.bool false), (.string ⟨#[]⟩), (.int .i64 0)]) Tryd.underlying46 Ty.zero46 (by kernel_rfl) (by kernel_rfl) (by kernel_rfl) (by kernel_rfl)
instance : TyF Tryd.prog 46 0 3 0 1 false := ⟨_, _, _, Tryd.underlying46, rfl, rfl, rfl, Ty.size3, Tryd.underlying3, rfl⟩
instance : TyF Tryd.prog 46 1 9 1 1 false := ⟨_, _, _, Tryd.underlying46, rfl, rfl, rfl, Ty.size9, Tryd.underlying9, rfl⟩
instance : TyF Tryd.prog 46 2 9 2 1 false := ⟨_, _, _, Tryd.underlying46, rfl, rfl, rfl, Ty.size9, Tryd.underlying9, rfl⟩
instance : TyF Tryd.prog 46 3 3 3 1 false := ⟨_, _, _, Tryd.underlying46, rfl, rfl, rfl, Ty.size3, Tryd.underlying3, rfl⟩
instance : TyF Tryd.prog 46 4 3 4 1 false := ⟨_, _, _, Tryd.underlying46, rfl, rfl, rfl, Ty.size3, Tryd.underlying3, rfl⟩
instance : TyF Tryd.prog 46 5 4 5 1 false := ⟨_, _, _, Tryd.underlying46, rfl, rfl, rfl, Ty.size4, Tryd.underlying4, rfl⟩
instance : TyF Tryd.prog 46 6 9 6 1 false := ⟨_, _, _, Tryd.underlying46, rfl, rfl, rfl, Ty.size9, Tryd.underlying9, rfl⟩
instance : TyF Tryd.prog 46 7 3 7 1 false := ⟨_, _, _, Tryd.underlying46, rfl, rfl, rfl, Ty.size3, Tryd.underlying3, rfl⟩
instance : TyU Tryd.prog 48 (.slice 33) := ⟨Tryd.underlying48⟩
instance : TyA Tryd.prog 48 false := ⟨_, Tryd.underlying48, rfl⟩
instance : TyS Tryd.prog 48 1 := ⟨Ty.size48⟩
instance : SlI Tryd.prog 48 1 := .of (z := (.int .u16 0)) Tryd.underlying48 Ty.size33 Ty.zero33 rfl (by decide)
instance : TyU Tryd.prog 51 (.slice 5) := ⟨Tryd.underlying51⟩
instance : TyA Tryd.prog 51 false := ⟨_, Tryd.underlying51, rfl⟩
instance : TyS Tryd.prog 51 1 := ⟨Ty.size51⟩
instance : SlI Tryd.prog 51 1 := .of (z := (.int .u8 0)) Tryd.underlying51 Ty.size5 Ty.zero5 rfl (by decide)
instance : TyU Tryd.prog 61 (.pointer 67) := ⟨Tryd.underlying61⟩
instance : TyA Tryd.prog 61 false := ⟨_, Tryd.underlying61, rfl⟩
instance : TyS Tryd.prog 61 1 := ⟨Ty.size61⟩
instance : TyA Tryd.prog 63 true := ⟨_, Tryd.underlying63, rfl⟩
instance : TyS Tryd.prog 63 2 := ⟨Ty.size63⟩
instance : BldI Tryd.prog 63 [.nils, (.int .i64 0)] [(0, 1), (1, 1)] := .struct (za := #[(.slice none 0 0), (.int .i64 0)]) Tryd.underlying63 Ty.zero63 (by kernel_rfl) (by kernel_rfl) (by kernel_rfl) (by kernel_rfl)
instance : TyF Tryd.prog 63 0 22 0 1 false := ⟨_, _, _, Tryd.underlying63, rfl, rfl, rfl, Ty.size22, Tryd.underlying22, rfl⟩
instance : TyF Tryd.prog 63 1 3 1 1 false := ⟨_, _, _, Tryd.underlying63, rfl, rfl, rfl, Ty.size3, Tryd.underlying3, rfl⟩
instance : TyA Tryd.prog 65 false := ⟨_, Tryd.underlying65, rfl⟩
instance : TyS Tryd.prog 65 1 := ⟨Ty.size65⟩
instance : TyA Tryd.prog 67 true := ⟨_, Tryd.underlying67, rfl⟩
instance : TyS Tryd.prog 67 3 := ⟨Ty.size67⟩
instance : BldI Tryd.prog 67 [.nils, (.int .i64 0), .nilifc] [(0, 2), (2, 1)] := .struct (za := #[(.slice none 0 0), (.int .i64 0), .nilIface]) Tryd.underlying67 Ty.zero67 (by kernel_rfl) (by kernel_rfl) (by kernel_rfl) (by kernel_rfl)
instance : TyF Tryd.prog 67 0 63 0 2 true := ⟨_, _, _, Tryd.underlying67, rfl, rfl, rfl, Ty.size63, Tryd.underlying63, rfl⟩
instance : TyF Tryd.prog 67 1 65 2 1 false := ⟨_, _, _, Tryd.underlying67, rfl, rfl, rfl, Ty.size65, Tryd.underlying65, rfl⟩
instance : TyA Tryd.prog 71 false := ⟨_, Tryd.underlying71, rfl⟩
instance : TyS Tryd.prog 71 1 := ⟨Ty.size71⟩
instance : TyA Tryd.prog 79 false := ⟨_, Tryd.underlying79, rfl⟩
instance : TyS Tryd.prog 79 1 := ⟨Ty.size79⟩
instance : TyU Tryd.prog 82 (.pointer 87) := ⟨Tryd.underlying82⟩
instance : TyA Tryd.prog 82 false := ⟨_, Tryd.underlying82, rfl⟩
instance : TyS Tryd.prog 82 1 := ⟨Ty.size82⟩
instance : TyA Tryd.prog 84 true := ⟨_, Tryd.underlying84, rfl⟩
instance : TyS Tryd.prog 84 12 := ⟨Ty.size84⟩
instance : BldI Tryd.prog 84 [(.int .i64 0), .str [], .str [], .str [], (.int .i64 0), (.int .i64 0), (.int .i64 0), .nils, .nils, .str [], (.int .i64 0), .nilp] [(0, 10), (10, 1), (11, 1)] := .struct (za := #[(.int .i64 0), (.string ⟨#[]⟩), (.string ⟨#[]⟩), (.string ⟨#[]⟩), (.int .i64 0), (.int .i64 0), (.int .i64 0), (.slice none 0 0), (.slice none 0 0), (.string ⟨#[]⟩), (.int .i64 0), (.pointer none)]) Tryd.underlying84 Ty.zero84 (by kernel_rfl) (by kernel_rfl) (by kernel_rfl) (by kernel_rfl)
instance : TyF Tryd.prog 84 0 27 0 10 true := ⟨_, _, _, Tryd.underlying84, rfl, rfl, rfl, Ty.size27, Tryd.underlying27, rfl⟩
instance : TyF Tryd.prog 84 1 3 10 1 false := ⟨_, _, _, Tryd.underlying84, rfl, rfl, rfl, Ty.size3, Tryd.underlying3, rfl⟩
instance : TyF Tryd.prog 84 2 82 11 1 false := ⟨_, _, _, Tryd.underlying84, rfl, rfl, rfl, Ty.size82, Tryd.underlying82, rfl⟩
instance : TyA Tryd.prog 85 false := ⟨_, Tryd.underlying85, rfl⟩
instance : TyS Tryd.prog 85 1 := ⟨Ty.size85⟩
instance : TyA Tryd.prog 87 true := ⟨_, Tryd.underlying87, rfl⟩
instance : TyS Tryd.prog 87 3 := ⟨Ty.size87⟩
instance : BldI Tryd.prog 87 [.nils, (.int .i64 0), (.bool false)] [(0, 1), (1, 1), (2, 1)] := .struct (za := #[(.slice none 0 0), (.int .i64 0), (.bool false)]) Tryd.underlying87 Ty.zero87 (by kernel_rfl) (by kernel_rfl) (by kernel_rfl) (by kernel_rfl)
instance : TyF Tryd.prog 87 0 22 0 1 false := ⟨_, _, _, Tryd.underlying87, rfl, rfl, rfl, Ty.size22, Tryd.underlying22, rfl⟩
instance : TyF Tryd.prog 87 1 3 1 1 false := ⟨_, _, _, Tryd.underlying87, rfl, rfl, rfl, Ty.size3, Tryd.underlying3, rfl⟩
instance : TyF Tryd.prog 87 2 4 2 1 false := ⟨_, _, _, Tryd.underlying87, rfl, rfl, rfl, Ty.size4, Tryd.underlying4, rfl⟩
instance : TyA Tryd.prog 90 false := ⟨_, Tryd.underlying90, rfl⟩
instance : TyS Tryd.prog 90 1 := ⟨Ty.size90⟩
instance : TyA Tryd.prog 91 false := ⟨_, Tryd.underlying91, rfl⟩
instance : TyS Tryd.prog 91 1 := ⟨Ty.size91⟩
instance : TyA Tryd.prog 96 false := ⟨_, Tryd.underlying96, rfl⟩
instance : TyS Tryd.prog 96 1 := ⟨Ty.size96⟩
instance : TyA Tryd.prog 98 true := ⟨_, Tryd.underlying98, rfl⟩
instance : TyS Tryd.prog 98 2 := ⟨Ty.size98⟩
instance : BldI Tryd.prog 98 [(.int .u8 0), .nilfn] [(0, 1), (1, 1)] := .struct (za := #[(.int .u8 0), .nilFunc]) Tryd.underlying98 Ty.zero98 (by kernel_rfl) (by kernel_rfl) (by kernel_rfl) (by kernel_rfl)
instance : TyF Tryd.prog 98 0 5 0 1 false := ⟨_, _, _, Tryd.underlying98, rfl, rfl, rfl, Ty.size5, Tryd.underlying5, rfl⟩
instance : TyF Tryd.prog 98 1 96 1 1 false := ⟨_, _, _, Tryd.underlying98, rfl, rfl, rfl, Ty.size96, Tryd.underlying96, rfl⟩
instance : TyU Tryd.prog 99 (.array 6 98) := ⟨Tryd.underlying99⟩
instance : TyA Tryd.prog 99 true := ⟨_, Tryd.underlying99, rfl⟩
instance : TyS Tryd.prog 99 12 := ⟨Ty.size99⟩
instance : BldI Tryd.prog 99 [(.int .u8 0), .nilfn, (.int .u8 0), .nilfn, (.int .u8 0), .nilfn, (.int .u8 0), .nilfn, (.int .u8 0), .nilfn, (.int .u8 0), .nilfn] ((List.range 6).map fun j => (j * 2, 2)) := .array (za := #[(.int .u8 0), .nilFunc, (.int .u8 0), .nilFunc, (.int .u8 0), .nilFunc, (.int .u8 0), .nilFunc, (.int .u8 0), .nilFunc, (.int .u8 0), .nilFunc]) Tryd.underlying99 Ty.zero99 (by kernel_rfl) Ty.size98 (by kernel_rfl)
instance : TyU Tryd.prog 101 (.pointer 27) := ⟨Tryd.underlying101⟩
instance : TyA Tryd.prog 101 false := ⟨_, Tryd.underlying101, rfl⟩
instance : TyS Tryd.prog 101 1 := ⟨Ty.size101⟩
instance : TyU Tryd.prog 102 (.pointer 46) := ⟨Tryd.underlying102⟩
instance : TyA Tryd.prog 102 false := ⟨_, Tryd.underlying102, rfl⟩
instance : TyS Tryd.prog 102 1 := ⟨Ty.size102⟩
instance : TyU Tryd.prog 104 (.pointer 106) := ⟨Tryd.underlying104⟩
instance : TyA Tryd.prog 104 false := ⟨_, Tryd.underlying104, rfl⟩
instance : TyS Tryd.prog 104 1 := ⟨Ty.size104⟩
instance : TyA Tryd.prog 106 true := ⟨_, Tryd.underlying106, rfl⟩
instance : TyS Tryd.prog 106 3 := ⟨Ty.size106⟩
instance : BldI Tryd.prog 106 [.nils, (.int .i64 0), (.bool false)] [(0, 1), (1, 1), (2, 1)] := .struct (za := #[(.slice none 0 0), (.int .i64 0), (.bool false)]) Tryd.underlying106 Ty.zero106 (by kernel_rfl) (by kernel_rfl) (by kernel_rfl) (by kernel_rfl)
instance : TyF Tryd.prog 106 0 22 0 1 false := ⟨_, _, _, Tryd.underlying106, rfl, rfl, rfl, Ty.size22, Tryd.underlying22, rfl⟩
instance : TyF Tryd.prog 106 1 3 1 1 false := ⟨_, _, _, Tryd.underlying106, rfl, rfl, rfl, Ty.size3, Tryd.underlying3, rfl⟩
instance : TyF Tryd.prog 106 2 4 2 1 false := ⟨_, _, _, Tryd.underlying106, rfl, rfl, rfl, Ty.size4, Tryd.underlying4, rfl⟩
instance : TyU Tryd.prog 109 (.slice 9) := ⟨Tryd.underlying109⟩
instance : TyA Tryd.prog 109 false := ⟨_, Tryd.underlying109, rfl⟩
instance : TyS Tryd.prog 109 1 := ⟨Ty.size109⟩
instance : SlI Tryd.prog 109 1 := .of (z := (.string ⟨#[]⟩)) Tryd.underlying109 Ty.size9 Ty.zero9 rfl (by decide)
instance : TyU Tryd.prog 113 (.array 3 9) := ⟨Tryd.underlying113⟩
instance : TyA Tryd.prog 113 true := ⟨_, Tryd.underlying113, rfl⟩
instance : TyS Tryd.prog 113 3 := ⟨Ty.size113⟩
instance : BldI Tryd.prog 113 [.str [], .str [], .str []] ((List.range 3).map fun j => (j * 1, 1)) := .array (za := #[(.string ⟨#[]⟩), (.string ⟨#[]⟩), (.string ⟨#[]⟩)]) Tryd.underlying113 Ty.zero113 (by kernel_rfl) Ty.size9 (by kernel_rfl)
instance : TyU Tryd.prog 117 (.pointer 63) := ⟨Tryd.underlying117⟩
instance : TyA Tryd.prog 117 false := ⟨_, Tryd.underlying117, rfl⟩
instance : TyS Tryd.prog 117 1 := ⟨Ty.size117⟩
instance : TyA Tryd.prog 118 false := ⟨_, Tryd.underlying118, rfl⟩
instance : TyS Tryd.prog 118 1 := ⟨Ty.size118⟩
instance : TyA Tryd.prog 124 false := ⟨_, Tryd.underlying124, rfl⟩
instance : TyS Tryd.prog 124 1 := ⟨Ty.size124⟩
instance : TyA Tryd.prog 127 false := ⟨_, Tryd.underlying127, rfl⟩
instance : TyS Tryd.prog 127 1 := ⟨Ty.size127⟩
instance : TyU Tryd.prog 128 (.slice 20) := ⟨Tryd.underlying128⟩
instance : TyA Tryd.prog 128 false := ⟨_, Tryd.underlying128, rfl⟩
instance : TyS Tryd.prog 128 1 := ⟨Ty.size128⟩
instance : SlI Tryd.prog 128 1 := .of (z := .nilIface) Tryd.underlying128 Ty.size20 Ty.zero20 rfl (by decide)
instance : TyA Tryd.prog 134 false := ⟨_, Tryd.underlying134, rfl⟩
instance : TyS Tryd.prog 134 1 := ⟨Ty.size134⟩
instance : TyU Tryd.prog 136 (.int .u64) := ⟨Tryd.underlying136⟩
instance : TyA Tryd.prog 136 false := ⟨_, Tryd.underlying136, rfl⟩
instance : TyS Tryd.prog 136 1 := ⟨Ty.size136⟩
instance : TyA Tryd.prog 140 true := ⟨_, Tryd.underlying140, rfl⟩
instance : TyS Tryd.prog 140 1 := ⟨Ty.size140⟩
instance : BldI Tryd.prog 140 [(.int .u16 0)] [(0, 1)] := .struct (za := #[(.int .u16 0)]) Tryd.underlying140 Ty.zero140 (by kernel_rfl) (by kernel_rfl) (by kernel_rfl) (by kernel_rfl)
instance : TyF Tryd.prog 140 0 34 0 1 false := ⟨_, _, _, Tryd.underlying140, rfl, rfl, rfl, Ty.size34, Tryd.underlying34, rfl⟩
instance : TyU Tryd.prog 141 (.int .i64) := ⟨Tryd.underlying141⟩
instance : TyA Tryd.prog 141 false := ⟨_, Tryd.underlying141, rfl⟩
instance : TyS Tryd.prog 141 1 := ⟨Ty.size141⟩
instance : TyU Tryd.prog 144 (.pointer 160) := ⟨Tryd.underlying144⟩
instance : TyA Tryd.prog 144 false := ⟨_, Tryd.underlying144, rfl⟩
instance : TyS Tryd.prog 144 1 := ⟨Ty.size144⟩
instance : TyU Tryd.prog 150 (.pointer 152) := ⟨Tryd.underlying150⟩
instance : TyA Tryd.prog 150 false := ⟨_, Tryd.underlying150, rfl⟩
instance : TyS Tryd.prog 150 1 := ⟨Ty.size150⟩
instance : TyA Tryd.prog 152 true := ⟨_, Tryd.underlying152, rfl⟩
instance : TyS Tryd.prog 152 2 := ⟨Ty.size152⟩
instance : TyF Tryd.prog 152 0 150 0 1 false := ⟨_, _, _, Tryd.underlying152, rfl, rfl, rfl, Ty.size150, Tryd.underlying150, rfl⟩
instance : TyF Tryd.prog 152 1 22 1 1 false := ⟨_, _, _, Tryd.underlying152, rfl, rfl, rfl, Ty.size22, Tryd.underlying22, rfl⟩
instance : TyU Tryd.prog 155 (.int .u64) := ⟨Tryd.underlying155⟩
instance : TyA Tryd.prog 155 false := ⟨_, Tryd.underlying155, rfl⟩
instance : TyS Tryd.prog 155 1 := ⟨Ty.size155⟩
instance : TyA Tryd.prog 160 true := ⟨_, Tryd.underlying160, rfl⟩
instance : TyS Tryd.prog 160 3 := ⟨Ty.size160⟩
instance : BldI Tryd.prog 160 [.str [], .str [], .nilifc] [(0, 1), (1, 1), (2, 1)] := .struct (za := #[(.string ⟨#[]⟩), (.string ⟨#[]⟩), .nilIface]) Tryd.underlying160 Ty.zero160 (by kernel_rfl) (by kernel_rfl) (by kernel_rfl) (by kernel_rfl)
instance : TyF Tryd.prog 160 0 9 0 1 false := ⟨_, _, _, Tryd.underlying160, rfl, rfl, rfl, Ty.size9, Tryd.underlying9, rfl⟩
instance : TyF Tryd.prog 160 1 9 1 1 false := ⟨_, _, _, Tryd.underlying160, rfl, rfl, rfl, Ty.size9, Tryd.underlying9, rfl⟩
instance : TyF Tryd.prog 160 2 65 2 1 false := ⟨_, _, _, Tryd.underlying160, rfl, rfl, rfl, Ty.size65, Tryd.underlying65, rfl⟩
instance : TyU Tryd.prog 163 (.int .u32) := ⟨Tryd.underlying163⟩
instance : TyA Tryd.prog 163 false := ⟨_, Tryd.underlying163, rfl⟩
instance : TyS Tryd.prog 163 1 := ⟨Ty.size163⟩
instance : TyU Tryd.prog 168 (.pointer 5) := ⟨Tryd.underlying168⟩
instance : TyA Tryd.prog 168 false := ⟨_, Tryd.underlying168, rfl⟩
instance : TyS Tryd.prog 168 1 := ⟨Ty.size168⟩
instance : TyU Tryd.prog 171 (.pointer 173) := ⟨Tryd.underlying171⟩
instance : TyA Tryd.prog 171 false := ⟨_, Tryd.underlying171, rfl⟩
instance : TyS Tryd.prog 171 1 := ⟨Ty.size171⟩
instance : TyA Tryd.prog 173 true := ⟨_, Tryd.underlying173, rfl⟩
instance : TyS Tryd.prog 173 1 := ⟨Ty.size173⟩
instance : BldI Tryd.prog 173 [.str []] [(0, 1)] := .struct (za := #[(.string ⟨#[]⟩)]) Tryd.underlying173 Ty.zero173 (by kernel_rfl) (by kernel_rfl) (by kernel_rfl) (by kernel_rfl)
instance : TyF Tryd.prog 173 0 9 0 1 false := ⟨_, _, _, Tryd.underlying173, rfl, rfl, rfl, Ty.size9, Tryd.underlying9, rfl⟩
instance : TyU Tryd.prog 174 (.array 24 5) := ⟨Tryd.underlying174⟩
instance : TyA Tryd.prog 174 true := ⟨_, Tryd.underlying174, rfl⟩
instance : TyS Tryd.prog 174 24 := ⟨Ty.size174⟩
instance : BldI Tryd.prog 174 [(.int .u8 0), (.int .u8 0), (.int .u8 0), (.int .u8 0), (.int .u8 0), (.int .u8 0), (.int .u8 0), (.int .u8 0), (.int .u8 0), (.int .u8 0), (.int .u8 0), (.int .u8 0), (.int .u8 0), (.int .u8 0), (.int .u8 0), (.int .u8 0), (.int .u8 0), (.int .u8 0), (.int .u8 0), (.int .u8 0), (.int .u8 0), (.int .u8 0), (.int .u8 0), (.int .u8 0)] ((List.range 24).map fun j => (j * 1, 1)) := .array (za := #[(.int .u8 0), (.int .u8 0), (.int .u8 0), (.int .u8 0), (.int .u8 0), (.int .u8 0), (.int .u8 0), (.int .u8 0), (.int .u8 0), (.int .u8 0), (.int .u8 0), (.int .u8 0), (.int .u8 0), (.int .u8 0), (.int .u8 0), (.int .u8 0), (.int .u8 0), (.int .u8 0), (.int .u8 0), (.int .u8 0), (.int .u8 0), (.int .u8 0), (.int .u8 0), (.int .u8 0)]) Tryd.underlying174 Ty.zero174 (by kernel_rfl) Ty.size5 (by kernel_rfl)
instance : TyA Tryd.prog 179 false := ⟨_, Tryd.underlying179, rfl⟩
instance : TyS Tryd.prog 179 1 := ⟨Ty.size179⟩
instance : TyU Tryd.prog 181 (.array 20 155) := ⟨Tryd.underlying181⟩
instance : TyA Tryd.prog 181 true := ⟨_, Tryd.underlying181, rfl⟩
instance : TyS Tryd.prog 181 20 := ⟨Ty.size181⟩
instance : BldI Tryd.prog 181 [(.int .u64 0), (.int .u64 0), (.int .u64 0), (.int .u64 0), (.int .u64 0), (.int .u64 0), (.int .u64 0), (.int .u64 0), (.int .u64 0), (.int .u64 0), (.int .u64 0), (.int .u64 0), (.int .u64 0), (.int .u64 0), (.int .u64 0), (.int .u64 0), (.int .u64 0), (.int .u64 0), (.int .u64 0), (.int .u64 0)] ((List.range 20).map fun j => (j * 1, 1)) := .array (za := #[(.int .u64 0), (.int .u64 0), (.int .u64 0), (.int .u64 0), (.int .u64 0), (.int .u64 0), (.int .u64 0), (.int .u64 0), (.int .u64 0), (.int .u64 0), (.int .u64 0), (.int .u64 0), (.int .u64 0), (.int .u64 0), (.int .u64 0), (.int .u64 0), (.int .u64 0), (.int .u64 0), (.int .u64 0), (.int .u64 0)]) Tryd.underlying181 Ty.zero181 (by kernel_rfl) Ty.size155 (by kernel_rfl)
instance : TyU Tryd.prog 182 (.array 65 5) := ⟨Tryd.underlying182⟩
instance : TyA Tryd.prog 182 true := ⟨_, Tryd.underlying182, rfl⟩
instance : TyS Tryd.prog 182 65 := ⟨Ty.size182⟩
instance : BldI Tryd.prog 182 [(.int .u8 0), (.int .u8 0), (.int .u8 0), (.int .u8 0), (.int .u8 0), (.int .u8 0), (.int .u8 0), (.int .u8 0), (.int .u8 0), (.int .u8 0), (.int .u8 0), (.int .u8 0), (.int .u8 0), (.int .u8 0), (.int .u8 0), (.int .u8 0), (.int .u8 0), (.int .u8 0), (.int .u8 0), (.int .u8 0), (.int .u8 0), (.int .u8 0), (.int .u8 0), (.int .u8 0), (.int .u8 0), (.int .u8 0), (.int .u8 0), (.int .u8 0), (.int .u8 0), (.int .u8 0), (.int .u8 0), (.int .u8 0), (.int .u8 0), (.int .u8 0), (.int .u8 0), (.int .u8 0), (.int .u8 0), (.int .u8 0), (.int .u8 0), (.int .u8 0), (.int .u8 0), (.int .u8 0), (.int .u8 0), (.int .u8 0), (.int .u8 0), (.int .u8 0), (.int .u8 0), (.int .u8 0), (.int .u8 0), (.int .u8 0), (.int .u8 0), (.int .u8 0), (.int .u8 0), (.int .u8 0), (.int .u8 0), (.int .u8 0), (.int .u8 0), (.int .u8 0), (.int .u8 0), (.int .u8 0), (.int .u8 0), (.int .u8 0), (.int .u8 0), (.int .u8 0), (.int .u8 0)] ((List.range 65).map fun j => (j * 1, 1)) := .array (za := #[(.int .u8 0), (.int .u8 0), (.int .u8 0), (.int .u8 0), (.int .u8 0), (.int .u8 0), (.int .u8 0), (.int .u8 0), (.int .u8 0), (.int .u8 0), (.int .u8 0), (.int .u8 0), (.int .u8 0), (.int .u8 0), (.int .u8 0), (.int .u8 0), (.int .u8 0), (.int .u8 0), (.int .u8 0), (.int .u8 0), (.int .u8 0), (.int .u8 0), (.int .u8 0), (.int .u8 0), (.int .u8 0), (.int .u8 0), (.int .u8 0), (.int .u8 0), (.int .u8 0), (.int .u8 0), (.int .u8 0), (.int .u8 0), (.int .u8 0), (.int .u8 0), (.int .u8 0), (.int .u8 0), (.int .u8 0), (.int .u8 0), (.int .u8 0), (.int .u8 0), (.int .u8 0), (.int .u8 0), (.int .u8 0), (.int .u8 0), (.int .u8 0), (.int .u8 0), (.int .u8 0), (.int .u8 0), (.int .u8 0), (.int .u8 0), (.int .u8 0), (.int .u8 0), (.int .u8 0), (.int .u8 0), (.int .u8 0), (.int .u8 0), (.int .u8 0), (.int .u8 0), (.int .u8 0), (.int .u8 0), (.int .u8 0), (.int .u8 0), (.int .u8 0), (.int .u8 0), (.int .u8 0)]) Tryd.underlying182 Ty.zero182 (by kernel_rfl) Ty.size5 (by kernel_rfl)
instance : TyU Tryd.prog 186 (.array 32 5) := ⟨Tryd.underlying186⟩
instance : TyA Tryd.prog 186 true := ⟨_, Tryd.underlying186, rfl⟩
instance : TyS Tryd.prog 186 32 := ⟨Ty.size186⟩
instance : BldI Tryd.prog 186 [(.int .u8 0), (.int .u8 0), (.int .u8 0), (.int .u8 0), (.int .u8 0), (.int .u8 0), (.int .u8 0), (.int .u8 0), (.int .u8 0), (.int .u8 0), (.int .u8 0), (.int .u8 0), (.int .u8 0), (.int .u8 0), (.int .u8 0), (.int .u8 0), (.int .u8 0), (.int .u8 0), (.int .u8 0), (.int .u8 0), (.int .u8 0), (.int .u8 0), (.int .u8 0), (.int .u8 0), (.int .u8 0), (.int .u8 0), (.int .u8 0), (.int .u8 0), (.int .u8 0), (.int .u8 0), (.int .u8 0), (.int .u8 0)] ((List.range 32).map fun j => (j * 1, 1)) := .array (za := #[(.int .u8 0), (.int .u8 0), (.int .u8 0), (.int .u8 0), (.int .u8 0), (.int .u8 0), (.int .u8 0), (.int .u8 0), (.int .u8 0), (.int .u8 0), (.int .u8 0), (.int .u8 0), (.int .u8 0), (.int .u8 0), (.int .u8 0), (.int .u8 0), (.int .u8 0), (.int .u8 0), (.int .u8 0), (.int .u8 0), (.int .u8 0), (.int .u8 0), (.int .u8 0), (.int .u8 0), (.int .u8 0), (.int .u8 0), (.int .u8 0), (.int .u8 0), (.int .u8 0), (.int .u8 0), (.int .u8 0), (.int .u8 0)]) Tryd.underlying186 Ty.zero186 (by kernel_rfl) Ty.size5 (by kernel_rfl)
instance : TyU Tryd.prog 187 (.array 64 5) := ⟨Tryd.underlying187⟩
instance : TyA Tryd.prog 187 true := ⟨_, Tryd.underlying187, rfl⟩
instance : TyS Tryd.prog 187 64 := ⟨Ty.size187⟩
instance : BldI Tryd.prog 187 [(.int .u8 0), (.int .u8 0), (.int .u8 0), (.int .u8 0), (.int .u8 0), (.int .u8 0), (.int .u8 0), (.int .u8 0), (.int .u8 0), (.int .u8 0), (.int .u8 0), (.int .u8 0), (.int .u8 0), (.int .u8 0), (.int .u8 0), (.int .u8 0), (.int .u8 0), (.int .u8 0), (.int .u8 0), (.int .u8 0), (.int .u8 0), (.int .u8 0), (.int .u8 0), (.int .u8 0), (.int .u8 0), (.int .u8 0), (.int .u8 0), (.int .u8 0), (.int .u8 0), (.int .u8 0), (.int .u8 0), (.int .u8 0), (.int .u8 0), (.int .u8 0), (.int .u8 0), (.int .u8 0), (.int .u8 0), (.int .u8 0), (.int .u8 0), (.int .u8 0), (.int .u8 0), (.int .u8 0), (.int .u8 0), (.int .u8 0), (.int .u8 0), (.int .u8 0), (.int .u8 0), (.int .u8 0), (.int .u8 0), (.int .u8 0), (.int .u8 0), (.int .u8 0), (.int .u8 0), (.int .u8 0), (.int .u8 0), (.int .u8 0), (.int .u8 0), (.int .u8 0), (.int .u8 0), (.int .u8 0), (.int .u8 0), (.int .u8 0), (.int .u8 0), (.int .u8 0)] ((List.range 64).map fun j => (j * 1, 1)) := .array (za := #[(.int .u8 0), (.int .u8 0), (.int .u8 0), (.int .u8 0), (.int .u8 0), (.int .u8 0), (.int .u8 0), (.int .u8 0), (.int .u8 0), (.int .u8 0), (.int .u8 0), (.int .u8 0), (.int .u8 0), (.int .u8 0), (.int .u8 0), (.int .u8 0), (.int .u8 0), (.int .u8 0), (.int .u8 0), (.int .u8 0), (.int .u8 0), (.int .u8 0), (.int .u8 0), (.int .u8 0), (.int .u8 0), (.int .u8 0), (.int .u8 0), (.int .u8 0), (.int .u8 0), (.int .u8 0), (.int .u8 0), (.int .u8 0), (.int .u8 0), (.int .u8 0), (.int .u8 0), (.int .u8 0), (.int .u8 0), (.int .u8 0), (.int .u8 0), (.int .u8 0), (.int .u8 0), (.int .u8 0), (.int .u8 0), (.int .u8 0), (.int .u8 0), (.int .u8 0), (.int .u8 0), (.int .u8 0), (.int .u8 0), (.int .u8 0), (.int .u8 0), (.int .u8 0), (.int .u8 0), (.int .u8 0), (.int .u8 0), (.int .u8 0), (.int .u8 0), (.int .u8 0), (.int .u8 0), (.int .u8 0), (.int .u8 0), (.int .u8 0), (.int .u8 0), (.int .u8 0)]) Tryd.underlying187 Ty.zero187 (by kernel_rfl) Ty.size5 (by kernel_rfl)
instance : AppI Tryd.prog 24 24 1 8 := .of (z := (.int .i64 0)) Tryd.underlying24 (.inr ⟨_, Tryd.underlying24⟩) Ty.size3 (by kernel_rfl) Ty.zero3 rfl (by decide)
instance : AppI Tryd.prog 30 30 2 40 := .of (z := (.agg #[(.string ⟨#[]⟩), (.slice none 0 0)])) Tryd.underlying30 (.inr ⟨_, Tryd.underlying30⟩) Ty.size43 (by kernel_rfl) Ty.zero43 rfl (by decide)
instance : AppI Tryd.prog 25 25 8 88 := .of (z := (.agg #[(.int .i64 0), (.string ⟨#[]⟩), (.string ⟨#[]⟩), (.int .i64 0), (.int .i64 0), (.bool false), (.string ⟨#[]⟩), (.int .i64 0)])) Tryd.underlying25 (.inr ⟨_, Tryd.underlying25⟩) Ty.size46 (by kernel_rfl) Ty.zero46 rfl (by decide)
instance : AppI Tryd.prog 51 22 1 1 := .of (z := (.int .u8 0)) Tryd.underlying51 (.inr ⟨_, Tryd.underlying22⟩) Ty.size5 (by kernel_rfl) Ty.zero5 rfl (by decide)
instance : AppI Tryd.prog 22 22 1 1 := .of (z := (.int .u8 0)) Tryd.underlying22 (.inr ⟨_, Tryd.underlying22⟩) Ty.size5 (by kernel_rfl) Ty.zero5 rfl (by decide)
instance : AppI Tryd.prog 22 9 1 1 := .of (z := (.int .u8 0)) Tryd.underlying22 (.inl Tryd.underlying9) Ty.size5 (by kernel_rfl) Ty.zero5 rfl (by decide)
instance : OwnF Tryd.prog 2 := ⟨_, Tryd.func2, by kernel_rfl, by kernel_rfl⟩
instance : OwnF Tryd.prog 3 := ⟨_, Tryd.func3, by kernel_rfl, by kernel_rfl⟩
instance : OwnF Tryd.prog 4 := ⟨_, Tryd.func4, by kernel_rfl, by kernel_rfl⟩
instance : OwnF Tryd.prog 5 := ⟨_, Tryd.func5, by kernel_rfl, by kernel_rfl⟩
instance : OwnF Tryd.prog 6 := ⟨_, Tryd.func6, by kernel_rfl, by kernel_rfl⟩
instance : OwnF Tryd.prog 7 := ⟨_, Tryd.func7, by kernel_rfl, by kernel_rfl⟩
instance : OwnF Tryd.prog 8 := ⟨_, Tryd.func8, by kernel_rfl, by kernel_rfl⟩
instance : OwnF Tryd.prog 9 := ⟨_, Tryd.func9, by kernel_rfl, by kernel_rfl⟩
instance : OwnF Tryd.prog 10 := ⟨_, Tryd.func10, by kernel_rfl, by kernel_rfl⟩
instance : OwnF Tryd.prog 11 := ⟨_, Tryd.func11, by kernel_rfl, by kernel_rfl⟩
instance : OwnF Tryd.prog 12 := ⟨_, Tryd.func12, by kernel_rfl, by kernel_rfl⟩
instance : OwnF Tryd.prog 13 := ⟨_, Tryd.func13, by kernel_rfl, by kernel_rfl⟩
instance : OwnF Tryd.prog 14 := ⟨_, Tryd.func14, by kernel_rfl, by kernel_rfl⟩
instance : OwnF Tryd.prog 15 := ⟨_, Tryd.func15, by kernel_rfl, by kernel_rfl⟩
instance : OwnF Tryd.prog 16 := ⟨_, Tryd.func16, by kernel_rfl, by kernel_rfl⟩
instance : OwnF Tryd.prog 17 := ⟨_, Tryd.func17, by kernel_rfl, by kernel_rfl⟩
instance : OwnF Tryd.prog 18 := ⟨_, Tryd.func18, by kernel_rfl, by kernel_rfl⟩
instance : OwnF Tryd.prog 19 := ⟨_, Tryd.func19, by kernel_rfl, by kernel_rfl⟩
instance : OwnF Tryd.prog 20 := ⟨_, Tryd.func20, by kernel_rfl, by kernel_rfl⟩
instance : OwnF Tryd.prog 21 := ⟨_, Tryd.func21, by kernel_rfl, by kernel_rfl⟩
instance : OwnF Tryd.prog 22 := ⟨_, Tryd.func22, by kernel_rfl, by kernel_rfl⟩
instance : OwnF Tryd.prog 23 := ⟨_, Tryd.func23, by kernel_rfl, by kernel_rfl⟩
instance : OwnF Tryd.prog 24 := ⟨_, Tryd.func24, by kernel_rfl, by kernel_rfl⟩
instance : OwnF Tryd.prog 25 := ⟨_, Tryd.func25, by kernel_rfl, by kernel_rfl⟩
instance : OwnF Tryd.prog 26 := ⟨_, Tryd.func26, by kernel_rfl, by kernel_rfl⟩
instance : OwnF Tryd.prog 27 := ⟨_, Tryd.func27, by kernel_rfl, by kernel_rfl⟩
instance : OwnF Tryd.prog 28 := ⟨_, Tryd.func28, by kernel_rfl, by kernel_rfl⟩
instance : OwnF Tryd.prog 29 := ⟨_, Tryd.func29, by kernel_rfl, by kernel_rfl⟩
instance : OwnF Tryd.prog 30 := ⟨_, Tryd.func30, by kernel_rfl, by kernel_rfl⟩
instance : OwnF Tryd.prog 31 := ⟨_, Tryd.func31, by kernel_rfl, by kernel_rfl⟩
instance : OwnF Tryd.prog 32 := ⟨_, Tryd.func32, by kernel_rfl, by kernel_rfl⟩
instance : OwnF Tryd.prog 33 := ⟨_, Tryd.func33, by kernel_rfl, by kernel_rfl⟩
instance : OwnF Tryd.prog 34 := ⟨_, Tryd.func34, by kernel_rfl, by kernel_rfl⟩
instance : OwnF Tryd.prog 35 := ⟨_, Tryd.func35, by kernel_rfl, by kernel_rfl⟩
instance : OwnF Tryd.prog 36 := ⟨_, Tryd.func36, by kernel_rfl, by kernel_rfl⟩
instance : OwnF Tryd.prog 37 := ⟨_, Tryd.func37, by kernel_rfl, by kernel_rfl⟩
instance : OwnF Tryd.prog 38 := ⟨_, Tryd.func38, by kernel_rfl, by kernel_rfl⟩
instance : OwnF Tryd.prog 39 := ⟨_, Tryd.func39, by kernel_rfl, by kernel_rfl⟩
instance : OwnF Tryd.prog 40 := ⟨_, Tryd.func40, by kernel_rfl, by kernel_rfl⟩
instance : OwnF Tryd.prog 41 := ⟨_, Tryd.func41, by kernel_rfl, by kernel_rfl⟩
instance : OwnF Tryd.prog 42 := ⟨_, Tryd.func42, by kernel_rfl, by kernel_rfl⟩
instance : OwnF Tryd.prog 43 := ⟨_, Tryd.func43, by kernel_rfl, by kernel_rfl⟩
instance : OwnF Tryd.prog 44 := ⟨_, Tryd.func44, by kernel_rfl, by kernel_rfl⟩
instance : OwnF Tryd.prog 45 := ⟨_, Tryd.func45, by kernel_rfl, by kernel_rfl⟩
instance : OwnF Tryd.prog 46 := ⟨_, Tryd.func46, by kernel_rfl, by kernel_rfl⟩
instance : OwnF Tryd.prog 47 := ⟨_, Tryd.func47, by kernel_rfl, by kernel_rfl⟩
instance : OwnF Tryd.prog 48 := ⟨_, Tryd.func48, by kernel_rfl, by kernel_rfl⟩
instance : OwnF Tryd.prog 49 := ⟨_, Tryd.func49, by kernel_rfl, by kernel_rfl⟩
instance : OwnF Tryd.prog 50 := ⟨_, Tryd.func50, by kernel_rfl, by kernel_rfl⟩
instance : OwnF Tryd.prog 51 := ⟨_, Tryd.func51, by kernel_rfl, by kernel_rfl⟩
instance : OwnF Tryd.prog 52 := ⟨_, Tryd.func52, by kernel_rfl, by kernel_rfl⟩
instance : OwnF Tryd.prog 53 := ⟨_, Tryd.func53, by kernel_rfl, by kernel_rfl⟩
instance : OwnF Tryd.prog 54 := ⟨_, Tryd.func54, by kernel_rfl, by kernel_rfl⟩
instance : OwnF Tryd.prog 55 := ⟨_, Tryd.func55, by kernel_rfl, by kernel_rfl⟩
instance : OwnF Tryd.prog 56 := ⟨_, Tryd.func56, by kernel_rfl, by kernel_rfl⟩
instance : OwnF Tryd.prog 57 := ⟨_, Tryd.func57, by kernel_rfl, by kernel_rfl⟩
instance : OwnF Tryd.prog 58 := ⟨_, Tryd.func58, by kernel_rfl, by kernel_rfl⟩
instance : OwnF Tryd.prog 59 := ⟨_, Tryd.func59, by kernel_rfl, by kernel_rfl⟩
instance : OwnF Tryd.prog 60 := ⟨_, Tryd.func60, by kernel_rfl, by kernel_rfl⟩
instance : OwnF Tryd.prog 61 := ⟨_, Tryd.func61, by kernel_rfl, by kernel_rfl⟩
instance : OwnF Tryd.prog 62 := ⟨_, Tryd.func62, by kernel_rfl, by kernel_rfl⟩
instance : OwnF Tryd.prog 63 := ⟨_, Tryd.func63, by kernel_rfl, by kernel_rfl⟩
instance : OwnF Tryd.prog 64 := ⟨_, Tryd.func64, by kernel_rfl, by kernel_rfl⟩
instance : OwnF Tryd.prog 65 := ⟨_, Tryd.func65, by kernel_rfl, by kernel_rfl⟩
instance : OwnF Tryd.prog 66 := ⟨_, Tryd.func66, by kernel_rfl, by kernel_rfl⟩
instance : OwnF Tryd.prog 67 := ⟨_, Tryd.func67, by kernel_rfl, by kernel_rfl⟩
instance : OwnF Tryd.prog 68 := ⟨_, Tryd.func68, by kernel_rfl, by kernel_rfl⟩
instance : OwnF Tryd.prog 69 := ⟨_, Tryd.func69, by kernel_rfl, by kernel_rfl⟩
instance : OwnF Tryd.prog 70 := ⟨_, Tryd.func70, by kernel_rfl, by kernel_rfl⟩
instance : OwnF Tryd.prog 71 := ⟨_, Tryd.func71, by kernel_rfl, by kernel_rfl⟩
instance : OwnF Tryd.prog 72 := ⟨_, Tryd.func72, by kernel_rfl, by kernel_rfl⟩
instance : OwnF Tryd.prog 73 := ⟨_, Tryd.func73, by kernel_rfl, by kernel_rfl⟩
instance : OwnF Tryd.prog 74 := ⟨_, Tryd.func74, by kernel_rfl, by kernel_rfl⟩
instance : OwnF Tryd.prog 75 := ⟨_, Tryd.func75, by kernel_rfl, by kernel_rfl⟩
instance : OwnF Tryd.prog 76 := ⟨_, Tryd.func76, by kernel_rfl, by kernel_rfl⟩
instance : OwnF Tryd.prog 77 := ⟨_, Tryd.func77, by kernel_rfl, by kernel_rfl⟩
instance : OwnF Tryd.prog 78 := ⟨_, Tryd.func78, by kernel_rfl, by kernel_rfl⟩
instance : OwnF Tryd.prog 79 := ⟨_, Tryd.func79, by kernel_rfl, by kernel_rfl⟩
instance : OwnF Tryd.prog 80 := ⟨_, Tryd.func80, by kernel_rfl, by kernel_rfl⟩
instance : OwnF Tryd.prog 81 := ⟨_, Tryd.func81, by kernel_rfl, by kernel_rfl⟩
instance : OwnF Tryd.prog 82 := ⟨_, Tryd.func82, by kernel_rfl, by kernel_rfl⟩
instance : OwnF Tryd.prog 83 := ⟨_, Tryd.func83, by kernel_rfl, by kernel_rfl⟩
instance : OwnF Tryd.prog 84 := ⟨_, Tryd.func84, by kernel_rfl, by kernel_rfl⟩
instance : OwnF Tryd.prog 85 := ⟨_, Tryd.func85, by kernel_rfl, by kernel_rfl⟩
instance : OwnF Tryd.prog 86 := ⟨_, Tryd.func86, by kernel_rfl, by kernel_rfl⟩
instance : OwnF Tryd.prog 87 := ⟨_, Tryd.func87, by kernel_rfl, by kernel_rfl⟩
instance : OwnF Tryd.prog 88 := ⟨_, Tryd.func88, by kernel_rfl, by kernel_rfl⟩
instance : OwnF Tryd.prog 89 := ⟨_, Tryd.func89, by kernel_rfl, by kernel_rfl⟩
instance : OwnF Tryd.prog 90 := ⟨_, Tryd.func90, by kernel_rfl, by kernel_rfl⟩
instance : OwnF Tryd.prog 91 := ⟨_, Tryd.func91, by kernel_rfl, by kernel_rfl⟩
instance : OwnF Tryd.prog 92 := ⟨_, Tryd.func92, by kernel_rfl, by kernel_rfl⟩
instance : OwnF Tryd.prog 93 := ⟨_, Tryd.func93, by kernel_rfl, by kernel_rfl⟩
instance : OwnF Tryd.prog 94 := ⟨_, Tryd.func94, by kernel_rfl, by kernel_rfl⟩
instance : OwnF Tryd.prog 95 := ⟨_, Tryd.func95, by kernel_rfl, by kernel_rfl⟩
instance : OwnF Tryd.prog 96 := ⟨_, Tryd.func96, by kernel_rfl, by kernel_rfl⟩
instance : OwnF Tryd.prog 97 := ⟨_, Tryd.func97, by kernel_rfl, by kernel_rfl⟩
instance : OwnF Tryd.prog 98 := ⟨_, Tryd.func98, by kernel_rfl, by kernel_rfl⟩
instance : OwnF Tryd.prog 99 := ⟨_, Tryd.func99, by kernel_rfl, by kernel_rfl⟩
instance : OwnF Tryd.prog 100 := ⟨_, Tryd.func100, by kernel_rfl, by kernel_rfl⟩
instance : OwnF Tryd.prog 101 := ⟨_, Tryd.func101, by kernel_rfl, by kernel_rfl⟩
instance : OwnF Tryd.prog 102 := ⟨_, Tryd.func102, by kernel_rfl, by kernel_rfl⟩
instance : OwnF Tryd.prog 103 := ⟨_, Tryd.func103, by kernel_rfl, by kernel_rfl⟩
instance : OwnF Tryd.prog 104 := ⟨_, Tryd.func104, by kernel_rfl, by kernel_rfl⟩
instance : OwnF Tryd.prog 105 := ⟨_, Tryd.func105, by kernel_rfl, by kernel_rfl⟩
instance : OwnF Tryd.prog 106 := ⟨_, Tryd.func106, by kernel_rfl, by kernel_rfl⟩
instance : OwnF Tryd.prog 107 := ⟨_, Tryd.func107, by kernel_rfl, by kernel_rfl⟩
instance : OwnF Tryd.prog 108 := ⟨_, Tryd.func108, by kernel_rfl, by kernel_rfl⟩
instance : OwnF Tryd.prog 109 := ⟨_, Tryd.func109, by kernel_rfl, by kernel_rfl⟩
instance : OwnF Tryd.prog 110 := ⟨_, Tryd.func110, by kernel_rfl, by kernel_rfl⟩
instance : OwnF Tryd.prog 111 := ⟨_, Tryd.func111, by kernel_rfl, by kernel_rfl⟩
instance : OwnF Tryd.prog 112 := ⟨_, Tryd.func112, by kernel_rfl, by kernel_rfl⟩
instance : OwnF Tryd.prog 113 := ⟨_, Tryd.func113, by kernel_rfl, by kernel_rfl⟩
instance : OwnF Tryd.prog 114 := ⟨_, Tryd.func114, by kernel_rfl, by kernel_rfl⟩
instance : OwnF Tryd.prog 115 := ⟨_, Tryd.func115, by kernel_rfl, by kernel_rfl⟩
instance : OwnF Tryd.prog 116 := ⟨_, Tryd.func116, by kernel_rfl, by kernel_rfl⟩
instance : OwnF Tryd.prog 117 := ⟨_, Tryd.func117, by kernel_rfl, by kernel_rfl⟩
instance : OwnF Tryd.prog 118 := ⟨_, Tryd.func118, by kernel_rfl, by kernel_rfl⟩
instance : OwnF Tryd.prog 119 := ⟨_, Tryd.func119, by kernel_rfl, by kernel_rfl⟩
instance : OwnF Tryd.prog 120 := ⟨_, Tryd.func120, by kernel_rfl, by kernel_rfl⟩
instance : OwnF Tryd.prog 121 := ⟨_, Tryd.func121, by kernel_rfl, by kernel_rfl⟩
instance : OwnF Tryd.prog 122 := ⟨_, Tryd.func122, by kernel_rfl, by kernel_rfl⟩
instance : OwnF Tryd.prog 123 := ⟨_, Tryd.func123, by kernel_rfl, by kernel_rfl⟩
instance : OwnF Tryd.prog 124 := ⟨_, Tryd.func124, by kernel_rfl, by kernel_rfl⟩
instance : OwnF Tryd.prog 125 := ⟨_, Tryd.func125, by kernel_rfl, by kernel_rfl⟩
instance : OwnF Tryd.prog 126 := ⟨_, Tryd.func126, by kernel_rfl, by kernel_rfl⟩
instance : OwnF Tryd.prog 127 := ⟨_, Tryd.func127, by kernel_rfl, by kernel_rfl⟩
instance : OwnF Tryd.prog 128 := ⟨_, Tryd.func128, by kernel_rfl, by kernel_rfl⟩
instance : OwnF Tryd.prog 129 := ⟨_, Tryd.func129, by kernel_rfl, by kernel_rfl⟩
instance : OwnF Tryd.prog 130 := ⟨_, Tryd.func130, by kernel_rfl, by kernel_rfl⟩
instance : OwnF Tryd.prog 131 := ⟨_, Tryd.func131, by kernel_rfl, by kernel_rfl⟩
instance : OwnF Tryd.prog 132 := ⟨_, Tryd.func132, by kernel_rfl, by kernel_rfl⟩
instance : OwnF Tryd.prog 133 := ⟨_, Tryd.func133, by kernel_rfl, by kernel_rfl⟩
instance : OwnF Tryd.prog 134 := ⟨_, Tryd.func134, by kernel_rfl, by kernel_rfl⟩
instance : OwnF Tryd.prog 135 := ⟨_, Tryd.func135, by kernel_rfl, by kernel_rfl⟩
instance : OwnF Tryd.prog 136 := ⟨_, Tryd.func136, by kernel_rfl, by kernel_rfl⟩
instance : OwnF Tryd.prog 137 := ⟨_, Tryd.func137, by kernel_rfl, by kernel_rfl⟩
instance : OwnF Tryd.prog 138 := ⟨_, Tryd.func138, by kernel_rfl, by kernel_rfl⟩
instance : OwnF Tryd.prog 139 := ⟨_, Tryd.func139, by kernel_rfl, by kernel_rfl⟩
instance : OwnF Tryd.prog 140 := ⟨_, Tryd.func140, by kernel_rfl, by kernel_rfl⟩
instance : OwnF Tryd.prog 141 := ⟨_, Tryd.func141, by kernel_rfl, by kernel_rfl⟩
instance : OwnF Tryd.prog 142 := ⟨_, Tryd.func142, by kernel_rfl, by kernel_rfl⟩
instance : OwnF Tryd.prog 143 := ⟨_, Tryd.func143, by kernel_rfl, by kernel_rfl⟩
instance : OwnF Tryd.prog 144 := ⟨_, Tryd.func144, by kernel_rfl, by kernel_rfl⟩
instance : OwnF Tryd.prog 145 := ⟨_, Tryd.func145, by kernel_rfl, by kernel_rfl⟩
instance : OwnF Tryd.prog 146 := ⟨_, Tryd.func146, by kernel_rfl, by kernel_rfl⟩
instance : OwnF Tryd.prog 147 := ⟨_, Tryd.func147, by kernel_rfl, by kernel_rfl⟩
instance : OwnF Tryd.prog 148 := ⟨_, Tryd.func148, by kernel_rfl, by kernel_rfl⟩
instance : OwnF Tryd.prog 149 := ⟨_, Tryd.func149, by kernel_rfl, by kernel_rfl⟩
instance : OwnF Tryd.prog 150 := ⟨_, Tryd.func150, by kernel_rfl, by kernel_rfl⟩
instance : OwnF Tryd.prog 153 := ⟨_, Tryd.func153, by kernel_rfl, by kernel_rfl⟩
instance : OwnF Tryd.prog 154 := ⟨_, Tryd.func154, by kernel_rfl, by kernel_rfl⟩
instance : OwnF Tryd.prog 155 := ⟨_, Tryd.func155, by kernel_rfl, by kernel_rfl⟩
instance : OwnF Tryd.prog 156 := ⟨_, Tryd.func156, by kernel_rfl, by kernel_rfl⟩
instance : OwnF Tryd.prog 157 := ⟨_, Tryd.func157, by kernel_rfl, by kernel_rfl⟩
instance : OwnF Tryd.prog 158 := ⟨_, Tryd.func158, by kernel_rfl, by kernel_rfl⟩
instance : OwnF Tryd.prog 159 := ⟨_, Tryd.func159, by kernel_rfl, by kernel_rfl⟩
instance : OwnF Tryd.prog 189 := ⟨_, Tryd.func189, by kernel_rfl, by kernel_rfl⟩
end Go.Proofs.YtkbmkhhcppfcnaaDoor.Ty
end
section
set_option linter.unusedVariables false
set_option linter.unusedSimpArgs false
set_option maxRecDepth 100000
set_option maxHeartbeats 400000
namespace Go.Proofs.YtkbmkhhcppfcnaaDoor
open Go.Al Go.RowKit
def numB (n : Nat) : List UInt8 := if n < 128 then [UInt8.ofNat n] else UInt8.ofNat (128 + n % 128) :: numB (n / 128)
termination_by n
def clampN (n : Int) : Nat := (max 0 (min n 9007199254740992)).toNat
theorem clampN_le (n : Int) : clampN n ≤ 9007199254740992 := by unfold clampN; omega
theorem numB_small {n : Nat} (h : n < 128) : numB n = [UInt8.ofNat n] := by rw [numB, if_pos h]
theorem numB_big {n : Nat} (h : ¬ n < 128) : numB n = UInt8.ofNat (128 + n % 128) :: numB (n / 128) := by rw [numB, if_neg h]
def num (n : Int) : List UInt8 := numB (clampN n)
theorem numB_len : ∀ (k n : Nat), n < 128 ^ (k + 1) → (numB n).length ≤ k + 1 := by
  intro k
  induction k with
  | zero => intro n h; rw [numB_small (by simpa using h)]; simp
  | succ k ih =>
    intro n h
    by_cases hn : n < 128
    · rw [numB_small hn]; simp
    · rw [numB_big hn]
      have := ih (n / 128) (by rw [Nat.pow_succ] at h; omega)
      simp; omega
theorem byteOf_nat (n : Nat) : Al.byteOf n = UInt8.ofNat n := by
  simp only [Al.byteOf]
  have : ((n : Int) % 256).toNat = n % 256 := by omega
  rw [this]
  apply UInt8.toNat_inj.1
  simp
theorem or128 : ∀ x : Fin 256, UInt8.ofNat x ||| 128 = UInt8.ofNat (128 + x % 128) := by decide +kernel
theorem byte_or (n : Nat) : Al.byteOf n ||| Al.byteOf 128 = UInt8.ofNat (128 + n % 128) := by
  have h := or128 ⟨n % 256, by omega⟩
  have e : UInt8.ofNat n = UInt8.ofNat (n % 256) := by apply UInt8.toNat_inj.1; simp
  rw [byteOf_nat, e]
  have e2 : Al.byteOf 128 = 128 := by decide +kernel
  rw [e2, h]
  congr 1
  simp only
  omega
theorem num_len (n : Int) : (num n).length ≤ 8 := numB_len 7 _ (by have := clampN_le n; omega)
theorem num_room (w0 : Base) (n : Int) (σ : St) : CallW Tryd.prog w0 85 [.int .i64 n] σ (fun r σ' => ∃ tk, r = .slc 1 (aBytes (num n)) tk ∧ Moves σ .full σ' tk) := by
  refine CallW.start Tryd.func85 rfl Tryd.ntmps85 (by simp) fun Q hQ => ?_
  refine W.seq ?_; refine W.regionL (by decide +kernel) rfl ?_; apply r_op; exact rfl; exact rfl; apply a_assign; (conv => (lhs; whnf)); (with_reducible refine runs_done ?_); refine W.seq ?_; refine W.regionL (by decide +kernel) rfl ?_; apply r_op; exact rfl; exact rfl; apply a_assign; (conv => (lhs; whnf)); (with_reducible refine runs_done ?_); refine W.seq ?_; refine W.seq ?_
  refine W.regionL (by decide +kernel) rfl ?_; apply r_op; exact rfl; exact rfl; apply a_move; (conv => (lhs; whnf)); apply r_op; exact rfl; exact rfl; apply g_call; exact a_min rfl rfl; apply r_op; exact rfl; exact rfl; apply g_call; exact a_max rfl rfl; apply r_op; exact rfl; exact rfl; apply a_assign; (conv => (lhs; whnf)); (with_reducible refine runs_done ?_); refine W.block ?_
  refine W.loop (fun k E s => ∃ (m : Nat) (acc : List UInt8) (tk : Tok), k = m ∧ m ≤ 9007199254740992 ∧ acc ++ numB m = num n ∧ Moves σ .full s tk ∧ Has [(0, .int .i64 m), (3, .slc 1 (aBytes acc) tk)] E) (clampN n) ⟨clampN n, [], .full, rfl, clampN_le n, rfl, .full σ, by exact Has.by (by repeat (first | exact trivial | refine ⟨by first | trivial | exact Weak.refl _ | exact Weak.tok _ _ _ | exact Weak.of_eq (congrArg (AV.int _) (by (unfold clampN; omega))) | exact Weak.nils _ _ (.inr rfl), ?_⟩))⟩ ?_
  rintro k E s ⟨m, acc, tk, rfl, hm1, hacc, hm, hE⟩; refine W.has hE ?_; clear hE
  have hl : acc.length ≤ 8 := by have h1 := congrArg List.length hacc; have h2 := num_len n; simp at h1; omega
  refine W.seq ?_; refine W.seq ?_; refine W.regionL (by decide +kernel) rfl ?_; apply r_op; exact rfl; exact rfl; apply a_move; (conv => (lhs; whnf)); apply r_op; exact rfl; exact rfl; apply g_binOp; exact a_binI rfl rfl rfl; (with_reducible refine runs_done ?_); refine W.cond rfl (fun hc => ?_) (fun hc => ?_); refine W.skip ?_; show W _ _ _ _ _ _ _; refine W.seq ?_; refine W.block ?_
  refine W.regionL (by decide +kernel) rfl ?_; apply r_op; exact rfl; exact rfl; apply a_move; (conv => (lhs; whnf)); apply r_op; exact rfl; exact rfl; apply a_move; (conv => (lhs; whnf)); apply r_op; exact rfl; exact rfl; apply g_convert; exact a_convB rfl; apply r_op; exact rfl; exact rfl; apply g_binOp; exact a_u8orC rfl rfl (by omega); apply r_op; exact rfl; exact rfl; apply g_buildSlice
  apply a_build1; (conv => (lhs; whnf)); exact rfl; exact rfl; decide; apply r_append'; exact rfl; exact rfl; decide; infer_instance; exact rfl; exact rfl; exact rfl; exact rfl; exact rfl; assumption
  simp only [length_aBytes, List.length_append, List.length_cons, List.length_nil, List.length_map, List.length_range]
  omega; intro tk1 σ1 hm; apply r_op; exact rfl; exact rfl; apply a_assign; (conv => (lhs; whnf)); (with_reducible refine runs_done ?_); refine W.regionL (by decide +kernel) rfl ?_; apply r_op; exact rfl; exact rfl; apply a_move; (conv => (lhs; whnf)); apply r_op; exact rfl; exact rfl; apply g_binOp; apply a_shr rfl rfl (by omega); (conv => (lhs; whnf)); apply r_op; exact rfl; exact rfl
  apply a_assign; (conv => (lhs; whnf)); (with_reducible refine runs_done ?_); rotate_left; refine W.exit ?_; show W _ _ _ _ _ _ _; refine W.seq ?_; refine W.regionL (by decide +kernel) rfl ?_; apply r_op; exact rfl; exact rfl; apply a_move; (conv => (lhs; whnf)); apply r_op; exact rfl; exact rfl; apply a_move; (conv => (lhs; whnf)); apply r_op; exact rfl; exact rfl; apply g_convert
  exact a_convB rfl; apply r_op; exact rfl; exact rfl; apply g_buildSlice; apply a_build1; (conv => (lhs; whnf)); exact rfl; exact rfl; decide; apply r_append'; exact rfl; exact rfl; decide; infer_instance; exact rfl; exact rfl; exact rfl; exact rfl; exact rfl; assumption
  simp only [length_aBytes, List.length_append, List.length_cons, List.length_nil, List.length_map, List.length_range]
  omega; intro tk1 σ1 hm; apply r_op; exact rfl; exact rfl; apply a_assign; (conv => (lhs; whnf)); (with_reducible refine runs_done ?_); refine W.ret ?_; show Q Exit.ret _ _; refine post_p hQ rfl rfl ?_; rotate_left
  · have hk : ¬ k < 128 := by simp at hc; omega
    refine ⟨k / 128, by omega, k / 128, acc ++ [Al.byteOf k ||| Al.byteOf 128], tk1, rfl, by omega, ?_, hm, ?_⟩
    · rw [← hacc, numB_big hk]
      simp [byte_or]
    · rw [aBytes_append]
      exact Has.by (by repeat (first | exact trivial | refine ⟨by first | trivial | exact Weak.refl _ | exact Weak.tok _ _ _ | exact Weak.of_eq (congrArg (AV.int _) (by omega)) | exact Weak.nils _ _ (.inr rfl), ?_⟩))
  · refine ⟨tk1, ?_, hm⟩
    have hk : k < 128 := by simp at hc; omega
    rw [← hacc, numB_small hk, aBytes_append, byteOf_nat]; rfl
def txt (s : List UInt8) : List UInt8 := num s.length ++ s
theorem text_room (w0 : Base) (s : List UInt8) (hs : s.length ≤ 1000000000) (σ : St) : CallW Tryd.prog w0 86 [.str s] σ (fun r σ' => ∃ tk, r = .slc 1 (aBytes (txt s)) tk ∧ Moves σ .full σ' tk) := by
  refine CallW.start Tryd.func86 rfl Tryd.ntmps86 (by simp) fun Q hQ => ?_
  have hl := num_len s.length
  refine W.seq ?_; refine W.regionL (by decide +kernel) rfl ?_; apply r_op; exact rfl; exact rfl; apply a_assign; (conv => (lhs; whnf)); (with_reducible refine runs_done ?_); refine W.seq ?_; refine W.regionL (by decide +kernel) rfl ?_; apply r_op; exact rfl; exact rfl; apply a_move; (conv => (lhs; whnf)); apply r_op; exact rfl; exact rfl; apply g_call; exact a_len_str rfl; apply r_callM; exact rfl
  exact rfl; decide; exact rfl; exact rfl; exact rfl; infer_instance; exact num_room w0 _ _; intro tk1 σ1 hm; apply r_op; exact rfl; exact rfl; apply a_move; (conv => (lhs; whnf)); apply r_append'; exact rfl; exact rfl; decide; infer_instance; exact rfl; exact rfl; exact rfl; exact rfl; exact rfl; assumption
  simp only [length_aBytes, List.length_append, List.length_cons, List.length_nil, List.length_map, List.length_range]
  omega; intro tk1 σ1 hm; apply r_op; exact rfl; exact rfl; apply a_assign; (conv => (lhs; whnf)); (with_reducible refine runs_done ?_); refine W.ret ?_; show Q Exit.ret _ _; refine post_p hQ rfl rfl ?_
  exact ⟨tk1, by rw [txt, aBytes_append]; rfl, hm⟩
end Go.Proofs.YtkbmkhhcppfcnaaDoor
end
section
set_option linter.unusedVariables false
set_option linter.unusedSimpArgs false
set_option maxRecDepth 100000
set_option maxHeartbeats 400000
namespace Go.Proofs.YtkbmkhhcppfcnaaDoor
open Go.Al Go.RowKit
structure Laid (w : World) : Prop where
  tab : Lib.TabIs Tryd.prog w "internal/strconv.uint64pow10" .u64 Lib.pow10Tab
  syn : ∃ t p, w.cell? ⟨0, 0, none⟩ = some (.iface t p)
  rng : ∃ t p, w.cell? ⟨1, 0, none⟩ = some (.iface t p)
theorem laid_below {w0 w : World} (h : Laid w0) (hb : Below w0.heap.size w0 w) : Laid w :=
  ⟨Lib.tabBelow_of_tabIs h.tab w hb, h.syn.imp fun _ h => h.imp fun _ h => cell_below hb (Nat.le_refl _) h, h.rng.imp fun _ h => h.imp fun _ h => cell_below hb (Nat.le_refl _) h⟩
instance : OwnF Tryd.prog 98 := ⟨_, Tryd.func98, by kernel_rfl, by kernel_rfl⟩
instance : OwnF Tryd.prog 122 := ⟨_, Tryd.func122, by kernel_rfl, by kernel_rfl⟩
instance : OwnF Tryd.prog 52 := ⟨_, Tryd.func52, by kernel_rfl, by kernel_rfl⟩
theorem itoa_any (w0 : Base) (hL : Laid w0) (n : Int) (h0 : -9223372036854775808 ≤ n) (h1 : n ≤ 9223372036854775807) : CallP Tryd.prog w0 98 [.int .i64 n] (.str (Lib.itoa n)) := .told fun G w vs hb hr => by
  cases hr with
  | cons h t =>
    cases t
    cases h
    exact ⟨_, fun w' => .str _, (Tryd.strconv_Itoa n h0 h1 w (laid_below hL hb).tab).mono fun e w' ⟨he, k, os, hw⟩ => ⟨he, hw ▸ Lib.below_grow _ w (Nat.le_refl _) k os⟩⟩
theorem repeat_any (w0 : Base) (s : List UInt8) (c : Nat) (hc : c ≤ 1000000) (hs : s.length ≤ 1000000) : CallP Tryd.prog w0 122 [.str s, .int .i64 c] (.str (Lib.repeatL s c)) := .told fun G w vs hb hr => by
  cases hr with
  | cons h t =>
    cases t with
    | cons h2 t =>
    cases t
    cases h
    cases h2
    refine ⟨_, fun w' => .str _, (Tryd.strings_Repeat ⟨s.toArray⟩ c w (by omega) ?_).mono fun e w' ⟨he, hw⟩ => ⟨he, hw⟩⟩
    have : (⟨s.toArray⟩ : ByteArray).size = s.length := by simp [ByteArray.size]
    rw [this]
    have := Nat.mul_le_mul hs hc
    omega
def goAtoi (l : List UInt8) : Int × Bool := match Lib.atoiAll l with
  | .ok v => (v, true)
  | .range => (Lib.atoiSat l, false)
  | _ => (0, false)
def eErr : Bool → AV
  | true => .nilifc
  | false => .ifc 144 .und
theorem bytesWorld_le (w : World) (t : TypeId) (s : ByteArray) (w' : World) (h : w' = w ∨ ∃ u, w' = Lib.bytesWorld w t u) : Below w.heap.size w w' := by
  rcases h with rfl | ⟨u, rfl⟩
  · exact .refl _ _
  · exact Lib.bytesWorld_below w _ _
theorem goAtoi_any (w0 : Base) (hL : Laid w0) (s : List UInt8) (hs : s.length ≤ 1000000000000) : CallP Tryd.prog w0 52 [.str s] (.tup [.int .i64 (goAtoi s).1, eErr (goAtoi s).2]) := .tells fun G w vs hb hr => by
  cases hr with
  | cons h1 t =>
    cases t
    cases h1
    have hL' := laid_below hL hb
    have hsz : (⟨s.toArray⟩ : ByteArray).size = s.length := by simp [ByteArray.size]
    have hl : (⟨s.toArray⟩ : ByteArray).data.toList = s := by simp
    unfold goAtoi
    rcases h : Lib.atoiAll s with v | _ | _
    · refine (Tryd.strconv_Atoi_ok ⟨s.toArray⟩ (by omega) v (by rw [hl]; exact h) w).mono fun e w' ⟨he, hw⟩ => ⟨_, he, .tup (.cons (.int _ _) (.cons .nilifc .nil)), bytesWorld_le w _ ⟨s.toArray⟩ w' hw⟩
    · obtain ⟨ti, p, hc⟩ := hL'.syn
      refine (Any.strconv_Atoi_syntax Tryd.laysC172 ⟨s.toArray⟩ (by omega) (by rw [hl]; exact h) _ w hc (.inr ⟨ti, p, rfl⟩)).mono fun e w' ⟨m, he, _, _, hw⟩ => ⟨_, he, .tup (.cons (.int _ _) (.cons (.ifc (.und _)) .nil)), hw⟩
    · obtain ⟨ti, p, hc⟩ := hL'.rng
      refine (Tryd.strconv_Atoi_range ⟨s.toArray⟩ (by omega) (by rw [hl]; exact h) _ w hc (.inr ⟨ti, p, rfl⟩)).mono fun e w' ⟨m, he, _, _, hw⟩ => ⟨_, he, ?_, hw⟩
      rw [hl]
      exact .tup (.cons (.int _ _) (.cons (.ifc (.und _)) .nil))
theorem goAtoi_ok {s : List UInt8} {n : Int} (hs : s.length ≤ 18) (h : Lib.atoi s = some n) : goAtoi s = (n, true) := by
  rw [goAtoi, Lib.atoiAll_short s hs, h]; rfl
theorem cl_itoa (n : Int) : Lib.itoa (max 0 (min n 9999999999)) = Lib.decDigits (cl n) := by
  unfold Lib.itoa cl
  rw [if_neg (by omega)]
theorem rep_one (c : Nat) : Lib.repeatL [48] c = List.replicate c 48 := by
  have := Lib.repeatL_replicate 48 1 c
  simpa using this
theorem itoaC_any (w0 : Base) (hL : Laid w0) (n : Int) : CallP Tryd.prog w0 98 [.int .i64 (max 0 (min n 9999999999))] (.str (Lib.decDigits (cl n))) := by
  rw [← cl_itoa]
  exact itoa_any w0 hL _ (by omega) (by omega)
theorem repeatC_any (w0 : Base) (a : Nat) (ha : a ≤ 10) : CallP Tryd.prog w0 122 [.str [48], .int .i64 (10 - (a : Int))] (.str (List.replicate (10 - a) 48)) := by
  rw [← rep_one]
  have : (10 - (a : Int)) = ((10 - a : Nat) : Int) := by omega
  rw [this]
  exact repeat_any w0 [48] (10 - a) (by omega) (by simp)
theorem number_any (w0 : Base) (hL : Laid w0) (n : Int) : CallP Tryd.prog w0 84 [.int .i64 n] (.str (dN 10 (cl n))) := by
  refine CallP.start Tryd.func84 rfl Tryd.ntmps84 (by simp) fun σ Q hQ => ?_
  obtain ⟨h1, h2⟩ := dec_pad 9 (cl n) (cl_lt n)
  refine W.seq ?_; refine W.regionL (by decide +kernel) rfl ?_; apply r_op; exact rfl; exact rfl; apply a_assign; (conv => (lhs; whnf)); (with_reducible refine runs_done ?_); refine W.seq ?_; refine W.regionL (by decide +kernel) rfl ?_; apply r_op; exact rfl; exact rfl; apply a_move; (conv => (lhs; whnf)); apply r_op; exact rfl; exact rfl; apply g_call; exact a_min rfl rfl; apply r_op; exact rfl
  exact rfl; apply g_call; exact a_max rfl rfl; apply r_callP; exact rfl; exact rfl; exact rfl; exact rfl; exact rfl; infer_instance; exact itoaC_any w0 hL n; apply r_op; exact rfl; exact rfl; apply a_assign; (conv => (lhs; whnf)); (with_reducible refine runs_done ?_); refine W.seq ?_; refine W.regionL (by decide +kernel) rfl ?_; apply r_op; exact rfl; exact rfl; apply a_move; (conv => (lhs; whnf))
  apply r_op; exact rfl; exact rfl; apply g_call; exact a_len_str rfl; apply r_op; exact rfl; exact rfl; apply g_binOp; exact a_sub64 rfl rfl (by omega); apply r_callP; exact rfl; exact rfl; exact rfl; exact rfl; exact rfl; infer_instance; exact repeatC_any w0 _ h1; apply r_op; exact rfl; exact rfl; apply a_move; (conv => (lhs; whnf)); apply r_op; exact rfl; exact rfl; apply g_binOp
  exact a_addS rfl rfl (by simp only [List.length_replicate, List.length_append, List.length_cons, List.length_nil]; omega); apply r_op; exact rfl; exact rfl; apply a_assign; (conv => (lhs; whnf)); (with_reducible refine runs_done ?_); refine W.ret ?_; show Q Exit.ret _ _; refine post_q hQ (by apply res_tmp; exact rfl; exact res_nil) (.inl rfl) (by exact .refl _) ?_; (conv => (lhs; whnf))
  rw [h2]
theorem key_byte {v : Nat} (hv : v < 10) : Al.byteOf (48 + ((Al.byteOf (max ((v : Int) % 10) (-((v : Int) % 10)))).toNat : Int)) = UInt8.ofNat (48 + v) := by
  have e : max ((v : Int) % 10) (-((v : Int) % 10)) = (v : Nat) := by omega
  rw [e, byteOf_toNat v (by omega)]
  show Al.byteOf ((48 + v : Nat) : Int) = _
  exact byteOf_nat _
theorem keyS_any (w0 : Base) (hL : Laid w0) (v : Nat) (hv : v < 10) (t : UInt8) (id seq : Int) : CallP Tryd.prog w0 35 [.int .i64 v, .int .u8 t.toNat, .int .i64 id, .int .i64 seq] (.str (rkey v t id seq)) := by
  refine CallP.start Tryd.func35 rfl Tryd.ntmps35 (by simp) fun σ Q hQ => ?_
  have hl := dN_length 10 (cl id)
  have hl2 := dN_length 10 (cl seq)
  refine W.seq ?_; refine W.regionL (by decide +kernel) rfl ?_; apply r_op; exact rfl; exact rfl; apply a_assign; (conv => (lhs; whnf)); (with_reducible refine runs_done ?_); refine W.seq ?_; refine W.regionDK 1 [] Ty.mixed (by decide +kernel) (by decide +kernel) rfl ?_; apply r_op; exact rfl; exact rfl; apply a_move; (conv => (lhs; whnf)); apply r_op; exact rfl; exact rfl; apply g_binOp
  exact a_rem rfl rfl (by omega); apply r_op; exact rfl; exact rfl; apply a_move; (conv => (lhs; whnf)); apply r_op; exact rfl; exact rfl; apply g_binOp; exact a_rem rfl rfl (by omega); apply r_op; exact rfl; exact rfl; apply g_unOp; exact a_neg64 rfl (by omega); apply r_op; exact rfl; exact rfl; apply g_call; exact a_max rfl rfl; apply r_op; exact rfl; exact rfl; apply g_convert; exact a_convB rfl
  apply r_op; exact rfl; exact rfl; apply g_binOp; exact a_u8add rfl rfl; apply r_op; exact rfl; exact rfl; apply a_move; (conv => (lhs; whnf)); apply r_op; exact rfl; exact rfl; apply g_buildSlice; apply a_buildN; apply EvP.cons (by (conv => (lhs; whnf))); apply EvP.cons (by (conv => (lhs; whnf))); exact EvP.nil; (conv => (lhs; whnf)); exact rfl; exact rfl; decide; apply r_op; exact rfl; exact rfl
  apply g_convert; exact a_bytesStrX rfl (by apply toB_cons; apply toB_cons; exact toB_nil); apply r_op; exact rfl; exact rfl; apply a_move; (conv => (lhs; whnf)); apply r_callP; exact rfl; exact rfl; exact rfl; exact rfl; exact rfl; infer_instance; exact number_any w0 hL _; apply r_op; exact rfl; exact rfl; apply g_binOp
  exact a_addS rfl rfl (by simp only [List.length_replicate, List.length_append, List.length_cons, List.length_nil]; omega); apply r_op; exact rfl; exact rfl; apply a_move; (conv => (lhs; whnf)); apply r_callP; exact rfl; exact rfl; exact rfl; exact rfl; exact rfl; infer_instance; exact number_any w0 hL _; apply r_op; exact rfl; exact rfl; apply g_binOp
  exact a_addS rfl rfl (by simp only [List.length_replicate, List.length_append, List.length_cons, List.length_nil]; omega); apply r_op; exact rfl; exact rfl; apply a_assign; (conv => (lhs; whnf)); (with_reducible refine runs_done ?_); refine W.ret ?_; show Q Exit.ret _ _; refine post_q hQ (by apply res_tmp; exact rfl; exact res_nil) (.inl rfl) (by exact .refl _) ?_; (conv => (lhs; whnf))
  rw [key_byte hv]; rfl
end Go.Proofs.YtkbmkhhcppfcnaaDoor
end
section
set_option linter.unusedVariables false
set_option linter.unusedSimpArgs false
set_option maxRecDepth 100000
set_option maxHeartbeats 400000
namespace Go.Proofs.YtkbmkhhcppfcnaaDoor
open Go.Al Go.RowKit
def deathN (m : Msg) : Int := if m.dead = false then 0 else if m.why = [110, 97, 99, 107] then 1 else 2
end Go.Proofs.YtkbmkhhcppfcnaaDoor
end
section
set_option linter.unusedVariables false
set_option linter.unusedSimpArgs false
set_option maxRecDepth 100000
set_option maxHeartbeats 400000
namespace Go.Proofs.YtkbmkhhcppfcnaaDoor
open Go.Al Go.RowKit
theorem num_p (w0 : Base) (n : Int) : CallP Tryd.prog w0 85 [.int .i64 n] (.slc 1 (aBytes (num n)) .no) := fun σ => (num_room w0 n σ).room
theorem text_p (w0 : Base) (s : List UInt8) (hs : s.length ≤ 1000000000) : CallP Tryd.prog w0 86 [.str s] (.slc 1 (aBytes (txt s)) .no) := fun σ => (text_room w0 s hs σ).room
def numsB : List Int → List UInt8
  | [] => []
  | a :: l => num a ++ numsB l
def txtsB : List (List UInt8) → List UInt8
  | [] => []
  | a :: l => txt a ++ txtsB l
theorem take_snoc {α : Type} {l : List α} {i : Nat} {a : α} (h : l[i]? = some a) : l.take (i + 1) = l.take i ++ [a] := by
  rw [List.take_add_one, h]; rfl
theorem txt_len (s : List UInt8) : (txt s).length ≤ s.length + 8 := by
  have := num_len s.length
  simp [txt]; omega
end Go.Proofs.YtkbmkhhcppfcnaaDoor
end
section
set_option linter.unusedVariables false
namespace Go.Proofs.YtkbmkhhcppfcnaaDoor
open Go.Al
def w64 (n : Int) : Int := Go.IntKind.i64.wrap n
def gapsB (last : Int) : List Int → List UInt8
  | [] => []
  | a :: l => num (w64 (a - last)) ++ gapsB a l
def acksB (x : Sub) : List UInt8 := num x.acks.length ++ gapsB x.floor x.acks
def msgB (m : Msg) : List UInt8 := txt m.body ++ txt m.attr ++ num m.tries ++ num m.until_ ++ num m.prio ++ num (deathN m)
def subB (x : Sub) : List UInt8 := txt x.name ++ txt x.topic ++ txt x.want ++ num x.lease ++ num x.most ++ num x.floor ++ txt x.note
def msgRow (id : Int) (m : Msg) : Row := ⟨rkey 3 113 id m.seq, msgB m⟩
def enc3 (x : Sub) : List Row := (if x.acks = [] then [] else [⟨rkey 3 97 x.id 0, acksB x⟩]) ++ x.queue.map (msgRow x.id) ++ [⟨rkey 3 115 x.id 0, subB x⟩]
structure Fits (x : Sub) : Prop where
  name : x.name.length ≤ 1000
  topic : x.topic.length ≤ 1000
  want : x.want.length ≤ 1000
  note : x.note.length ≤ 1000
  nacks : x.acks.length ≤ 100000
  nqueue : x.queue.length ≤ 100000
  queue : ∀ m ∈ x.queue, m.body.length ≤ 1000 ∧ m.attr.length ≤ 1000
end Go.Proofs.YtkbmkhhcppfcnaaDoor
end
section
set_option linter.unusedVariables false
namespace Go.Proofs.YtkbmkhhcppfcnaaDoor
open Go.Al
def deadN (m : Msg) : Int := if m.dead = true then 1 else 0
def qB (m : Msg) : List UInt8 := txt m.body ++ txt m.attr ++ num m.tries ++ num m.until_ ++ num (deadN m)
def xB (m : Msg) : List UInt8 := num m.prio ++ num (deathN m)
def sB (x : Sub) : List UInt8 := txt x.name ++ txt x.topic ++ num x.lease ++ num x.most ++ num x.floor
def ack1 (id n : Int) : Row := ⟨rkey 1 97 id n, []⟩
def note1 (x : Sub) : List Row := if x.note = [] then [] else [⟨rkey 1 110 x.id 0, txt x.note⟩]
def q1 (id : Int) (m : Msg) : Row := ⟨rkey 1 113 id m.seq, qB m⟩
def s1 (x : Sub) : Row := ⟨rkey 1 115 x.id 0, sB x⟩
def want1 (x : Sub) : List Row := if x.want = [] then [] else [⟨rkey 1 119 x.id 0, txt x.want⟩]
def x1 (id : Int) (m : Msg) : List Row := if m.prio ≠ 0 ∨ m.dead = true then [⟨rkey 1 120 id m.seq, xB m⟩] else []
def encA (x : Sub) : List Row := x.acks.map (ack1 x.id) ++ note1 x
def encB (x : Sub) : List Row := encA x ++ x.queue.map (q1 x.id) ++ [s1 x]
def enc1 (x : Sub) : List Row := encB x ++ want1 x ++ x.queue.flatMap (x1 x.id)
theorem flat_take_snoc {α β : Type} (f : α → List β) {l : List α} {i : Nat} {a : α} (h : l[i]? = some a) : (l.take (i + 1)).flatMap f = (l.take i).flatMap f ++ f a := by
  obtain ⟨hi, rfl⟩ := List.getElem?_eq_some_iff.1 h
  rw [List.take_succ_eq_append_getElem hi, List.flatMap_append]; simp
theorem note1_len (x : Sub) : (note1 x).length ≤ 1 := by unfold note1; split <;> simp
theorem want1_len (x : Sub) : (want1 x).length ≤ 1 := by unfold want1; split <;> simp
theorem x1_len (id : Int) (m : Msg) : (x1 id m).length ≤ 1 := by unfold x1; split <;> simp
theorem x1s_len (id : Int) : ∀ l : List Msg, (l.flatMap (x1 id)).length ≤ l.length
  | [] => by simp
  | m :: l => by
    have h1 := x1_len id m
    have h2 := x1s_len id l
    rw [List.flatMap_cons, List.length_append, List.length_cons]; omega
end Go.Proofs.YtkbmkhhcppfcnaaDoor
end
section
set_option linter.unusedVariables false
set_option linter.unusedSimpArgs false
set_option maxRecDepth 100000
set_option maxHeartbeats 1000000
namespace Go.Proofs.YtkbmkhhcppfcnaaDoor
open Go.Al Go.RowKit
instance : TyI Tryd.prog 65 := ⟨_, Tryd.underlying65⟩
instance : TyNI Tryd.prog 140 := ⟨_, Tryd.underlying140, rfl⟩
def gn (b : List UInt8) (at_ : Nat) : Nat → Nat → Nat → Nat × Nat × Nat
  | 0, _, _ => (0, 0, 11)
  | k + 1, i, n => if at_ + i = b.length then (0, 0, 10) else
    let c := (b.getD (at_ + i) 0).toNat
    let n' := n + c % 128 * 2 ^ (7 * i)
    if c < 128 then (if c = 0 ∧ 0 < i ∨ 9007199254740992 < n' then (0, 0, 11) else (n', at_ + i + 1, 0)) else gn b at_ k (i + 1) n'
def getNum (b : List UInt8) (at_ : Nat) : Nat × Nat × Nat := if b.length < at_ then (0, 0, 10) else gn b at_ 8 0 0
def e3 (p : Nat × Nat × Nat) : AV := .tup [.int .i64 p.1, .int .i64 p.2.1, .int .u16 p.2.2]
theorem getNum_any (w0 : Base) (b : List UInt8) (t : Tok) (a : Nat) (hb : b.length ≤ 1000000000) (ha : a ≤ 1000000000) : CallP Tryd.prog w0 91 [.slc 1 (aBytes b) t, .int .i64 a] (e3 (getNum b a)) := by
  refine CallP.start Tryd.func91 rfl Tryd.ntmps91 (by simp) fun σ Q hQ => ?_
  have hd0 : decide ((a : Int) < 0) = false := decide_eq_false (by omega)
  refine W.seq ?_; refine W.regionL (by decide +kernel) rfl ?_; apply r_op; exact rfl; exact rfl; apply a_assign; (conv => (lhs; whnf)); apply r_op; exact rfl; exact rfl; apply a_assign; (conv => (lhs; whnf)); apply r_op; exact rfl; exact rfl; apply a_assign; (conv => (lhs; whnf)); (with_reducible refine runs_done ?_); refine W.scope 1 ?_; refine W.seq ?_
  refine W.regionL (by decide +kernel) rfl ?_; apply r_op; exact rfl; exact rfl; apply a_assign; (conv => (lhs; whnf)); apply r_op; exact rfl; exact rfl; apply a_assign; (conv => (lhs; whnf)); (with_reducible refine runs_done ?_); refine W.seq ?_; refine W.seq ?_; refine W.regionL (by decide +kernel) rfl ?_; apply r_op; exact rfl; exact rfl; apply a_move; (conv => (lhs; whnf)); apply r_op
  exact rfl; exact rfl; apply g_binOp; exact a_binI rfl rfl rfl; apply r_op; exact rfl; exact rfl; apply a_move; (conv => (lhs; whnf)); apply r_op; exact rfl; exact rfl; apply a_move; (conv => (lhs; whnf)); apply r_op; exact rfl; exact rfl; apply a_move; (conv => (lhs; whnf)); apply r_op; exact rfl; exact rfl; apply g_call; exact a_len_slc rfl; apply r_op; exact rfl; exact rfl; apply g_binOp
  exact a_binI rfl rfl rfl; apply r_op; exact rfl; exact rfl; apply g_pick; apply a_pickF rfl (by exact rfl); (conv => (lhs; whnf)); (with_reducible refine runs_done ?_); refine W.meet (fun E s => s = σ ∧ a ≤ b.length ∧ Has [(0, .slc 1 (aBytes b) t), (1, .int .i64 a), (7, .int .i64 0), (8, .int .i64 0)] E) ?_ ?_
  · refine W.cond rfl (fun hc => ?_) (fun hc => ?_)
    · refine W.goto ?_
      refine ⟨_, rfl, ?_⟩; show W _ _ _ _ _ _ _; refine W.seq ?_; refine W.skip ?_; show W _ _ _ _ _ _ _; refine W.seq ?_; refine W.regionL (by decide +kernel) rfl ?_; apply r_op; exact rfl; exact rfl; apply a_assign; (conv => (lhs; whnf)); apply r_op; exact rfl; exact rfl; apply a_assign; (conv => (lhs; whnf)); apply r_op; exact rfl; exact rfl; apply a_assign; (conv => (lhs; whnf))
      (with_reducible refine runs_done ?_); refine W.ret ?_; show Q Exit.ret _ _; refine post_q hQ (by apply res_tmp; exact rfl; apply res_tmp; exact rfl; apply res_tmp; exact rfl; exact res_nil) (.inl rfl) (by exact .refl _) ?_; (conv => (lhs; whnf))
      have : b.length < a := by simp [length_aBytes] at hc; omega
      rw [getNum, if_pos this]; rfl
    · refine W.skip ?_
      exact ⟨rfl, by simp [length_aBytes] at hc; omega, by exact Has.by (by repeat (first | exact trivial | refine ⟨by first | trivial | exact Weak.refl _ | exact Weak.tok _ _ _ | exact Weak.of_eq (congrArg (AV.int _) (by omega)) | exact Weak.of_eq (congrArg AV.bool (by fail)) | exact Weak.nils _ _ (.inr rfl), ?_⟩))⟩
  · rintro E s ⟨rfl, hle, hE⟩
    refine W.has hE ?_; clear hE; refine W.seq ?_; refine W.block ?_
    refine W.loop (fun k E s' => ∃ (i n : Nat), i + k = 8 ∧ n < 2 ^ (7 * i) ∧ a + i ≤ b.length ∧ getNum b a = gn b a k i n ∧ s' = s ∧ Has [(0, .slc 1 (aBytes b) t), (1, .int .i64 a), (7, .int .i64 n), (8, .int .i64 i)] E) 8 ⟨0, 0, rfl, by simp, by omega, by rw [getNum, if_neg (by omega)], rfl, by exact Has.by (by repeat (first | exact trivial | refine ⟨by first | trivial | exact Weak.refl _ | exact Weak.tok _ _ _ | exact Weak.of_eq (congrArg (AV.int _) (by omega)) | exact Weak.of_eq (congrArg AV.bool (by fail)) | exact Weak.nils _ _ (.inr rfl), ?_⟩))⟩ ?_
    rintro k E s' ⟨i, n, hik, hn, hai, hgn, rfl, hE⟩; refine W.has hE ?_; clear hE; refine W.seq ?_; refine W.seq ?_; refine W.regionL (by decide +kernel) rfl ?_; apply r_op; exact rfl; exact rfl; apply a_move; (conv => (lhs; whnf)); apply r_op; exact rfl; exact rfl; apply g_binOp; exact a_binI rfl rfl rfl; (with_reducible refine runs_done ?_); refine W.cond rfl (fun hc => ?_) (fun hc => ?_)
    · have hi : i < 8 := by simp at hc; omega
      obtain ⟨k, rfl⟩ : ∃ k', k = k' + 1 := ⟨k - 1, by omega⟩
      clear hc; refine W.skip ?_; show W _ _ _ _ _ _ _; refine W.seq ?_; refine W.block ?_; refine W.seq ?_; refine W.seq ?_; refine W.regionL (by decide +kernel) rfl ?_; apply r_op; exact rfl; exact rfl; apply a_move; (conv => (lhs; whnf)); apply r_op; exact rfl; exact rfl; apply a_move; (conv => (lhs; whnf)); apply r_op; exact rfl; exact rfl; apply g_binOp; exact a_add64 rfl rfl (by omega)
      apply r_op; exact rfl; exact rfl; apply a_move; (conv => (lhs; whnf)); apply r_op; exact rfl; exact rfl; apply g_call; exact a_len_slc rfl; apply r_op; exact rfl; exact rfl; apply g_binOp; exact a_binI rfl rfl rfl; (with_reducible refine runs_done ?_); refine W.cond rfl (fun hc => ?_) (fun hc => ?_)
      · refine W.goto ?_
        refine ⟨_, rfl, ?_⟩; show W _ _ _ _ _ _ _; refine W.seq ?_; refine W.skip ?_; show W _ _ _ _ _ _ _; refine W.seq ?_; refine W.regionL (by decide +kernel) rfl ?_; apply r_op; exact rfl; exact rfl; apply a_assign; (conv => (lhs; whnf)); apply r_op; exact rfl; exact rfl; apply a_assign; (conv => (lhs; whnf)); apply r_op; exact rfl; exact rfl; apply a_assign; (conv => (lhs; whnf))
        (with_reducible refine runs_done ?_); refine W.ret ?_; show Q Exit.ret _ _; refine post_q hQ (by apply res_tmp; exact rfl; apply res_tmp; exact rfl; apply res_tmp; exact rfl; exact res_nil) (.inl rfl) (by exact .refl _) ?_; (conv => (lhs; whnf))
        have : a + i = b.length := by simp [length_aBytes] at hc; omega
        rw [hgn, gn, if_pos this]; rfl
      · have hne : ¬ a + i = b.length := by simp [length_aBytes] at hc; omega
        have hlt : a + i < b.length := by omega
        have ga : b[((a : Int) + (i : Int)).toNat]? = some (b.getD (a + i) 0) := by
          rw [show ((a : Int) + (i : Int)).toNat = a + i by omega]; simp [hlt]
        clear hc
        rw [gn, if_neg hne] at hgn
        dsimp only at hgn
        generalize b.getD (a + i) 0 = c at ga hgn
        have h127 := and127' c
        have hc256 := c.toNat_lt
        have hm128 : c.toNat % 128 < 128 := Nat.mod_lt _ (by decide)
        have h7 : IntKind.i64.wrap ((BitVec.ofInt IntKind.i64.bits (n : Int) ||| BitVec.ofInt IntKind.i64.bits (IntKind.i64.wrap (IntKind.i64.wrap (((c &&& Al.byteOf 127).toNat : Nat) : Int) * 2 ^ (min (7 * (i : Int)).toNat IntKind.i64.bits)))).toNat : Int) = ((n + c.toNat % 128 * 2 ^ (7 * i) : Nat) : Int) := by
          have e1 : IntKind.i64.wrap (((c.toNat % 128 : Nat) : Int)) = ((c.toNat % 128 : Nat) : Int) := IntWalk.i64_in _ (by omega)
          rw [h127, e1, shl_val hm128 hi, or_val hn hm128 hi]
        have hn' : n + c.toNat % 128 * 2 ^ (7 * i) < 2 ^ (7 * (i + 1)) := by
          have e : (2 : Nat) ^ (7 * (i + 1)) = 128 * 2 ^ (7 * i) := by rw [show 7 * (i + 1) = 7 * i + 7 by omega, Nat.pow_add, Nat.mul_comm]
          have := Nat.mul_le_mul_right (2 ^ (7 * i)) (show c.toNat % 128 ≤ 127 by omega)
          omega
        have hb56 : 2 ^ (7 * (i + 1)) ≤ 2 ^ 56 := Nat.pow_le_pow_right (by decide) (by omega)
        have e56 : (2 : Nat) ^ 56 = 72057594037927936 := by decide
        refine W.skip ?_; show W _ _ _ _ _ _ _; refine W.seq ?_; refine W.regionL (by decide +kernel) rfl ?_; apply r_op; exact rfl; exact rfl; apply a_move; (conv => (lhs; whnf)); apply r_op; exact rfl; exact rfl; apply a_move; (conv => (lhs; whnf)); apply r_op; exact rfl; exact rfl; apply a_move; (conv => (lhs; whnf)); apply r_op; exact rfl; exact rfl; apply g_binOp
        exact a_add64 rfl rfl (by omega); apply r_op; exact rfl; exact rfl; apply g_indexAddr; exact a_indexAddr rfl rfl (by decide) (by omega) (by exact get_map (by assumption)); apply r_op; exact rfl; exact rfl; apply g_load; exact a_load1 rfl rfl; apply r_op; exact rfl; exact rfl; apply a_assign; (conv => (lhs; whnf)); (with_reducible refine runs_done ?_); refine W.seq ?_
        refine W.regionL (by decide +kernel) rfl ?_; apply r_op; exact rfl; exact rfl; apply a_move; (conv => (lhs; whnf)); apply r_op; exact rfl; exact rfl; apply a_move; (conv => (lhs; whnf)); apply r_op; exact rfl; exact rfl; apply g_binOp; exact a_u8andC rfl rfl (by omega); apply r_op; exact rfl; exact rfl; apply g_convert; exact a_convI rfl; apply r_op; exact rfl; exact rfl; apply a_move
        (conv => (lhs; whnf)); apply r_op; exact rfl; exact rfl; apply g_binOp; exact a_mul64 rfl rfl (by omega); apply r_op; exact rfl; exact rfl; apply g_binOp; exact a_binI rfl rfl rfl; apply r_op; exact rfl; exact rfl; apply g_binOp; exact a_binI rfl rfl rfl; apply r_op; exact rfl; exact rfl; apply a_assign; (conv => (lhs; whnf)); (with_reducible refine runs_done ?_); refine W.seq ?_
        refine W.regionL (by decide +kernel) rfl ?_; apply r_op; exact rfl; exact rfl; apply a_move; (conv => (lhs; whnf)); apply r_op; exact rfl; exact rfl; apply g_binOp; exact a_u8andC rfl rfl (by omega); apply r_op; exact rfl; exact rfl; apply g_binOp; exact a_binI rfl rfl rfl; (with_reducible refine runs_done ?_)
        refine W.has (l := [(0, .slc 1 (aBytes b) t), (1, .int .i64 a), (7, .int .i64 ((n + c.toNat % 128 * 2 ^ (7 * i) : Nat) : Int)), (8, .int .i64 i), (9, .int .u8 c.toNat), (44, .bool (decide ((((c &&& Al.byteOf 128).toNat : Nat) : Int) = 0)))]) (by exact Has.by (by repeat (first | exact trivial | refine ⟨by first | trivial | exact Weak.refl _ | exact Weak.tok _ _ _ | exact Weak.of_eq (congrArg (AV.int _) (by (first | exact h7 | omega))) | exact Weak.of_eq (congrArg AV.bool (by fail)) | exact Weak.nils _ _ (.inr rfl), ?_⟩))) ?_
        generalize n + c.toNat % 128 * 2 ^ (7 * i) = m at hgn hn'
        have h128 := and128' c
        clear h7; refine W.cond rfl (fun hc => ?_) (fun hc => ?_)
        · have hc1 : c.toNat < 128 := h128.1 (by have := of_decide_eq_true hc; omega)
          rw [if_pos hc1] at hgn
          have hm1 : m ≤ 72057594037927936 := by omega
          clear h128 hc hn' hb56 e56 hm128 h127; refine W.seq ?_; refine W.seq ?_; refine W.regionL (by decide +kernel) rfl ?_; apply r_op; exact rfl; exact rfl; apply a_move; (conv => (lhs; whnf)); apply r_op; exact rfl; exact rfl; apply g_binOp; exact a_binI rfl rfl rfl; apply r_op; exact rfl; exact rfl; apply a_move; (conv => (lhs; whnf)); refine q_split rfl rfl rfl (fun hg => ?_) (fun hg => ?_)
          apply r_op; exact rfl; exact want_t rfl rfl rfl (by assumption); apply a_move; (conv => (lhs; whnf)); apply r_op; exact rfl; exact want_t rfl rfl rfl (by assumption); apply g_binOp; exact a_binI rfl rfl rfl; apply r_op; exact rfl; exact rfl; apply g_pick; apply a_pickT rfl (by assumption); (conv => (lhs; whnf)); apply r_op; exact rfl; exact rfl; apply a_move; (conv => (lhs; whnf))
          refine q_split rfl rfl rfl (fun hg => ?_) (fun hg => ?_); apply q_skip; exact rfl; exact want_f rfl rfl rfl (by assumption); apply q_skip; exact rfl; exact want_f rfl rfl rfl (by assumption); apply r_op; exact rfl; exact rfl; apply g_pick; apply a_pickT rfl (by assumption); (conv => (lhs; whnf)); (with_reducible refine runs_done ?_); refine W.condT rfl (by exact rfl) ?_; rotate_left
          apply r_op; exact rfl; exact want_t rfl rfl rfl (by assumption); apply a_move; (conv => (lhs; whnf)); apply r_op; exact rfl; exact want_t rfl rfl rfl (by assumption); apply g_binOp; exact a_binI rfl rfl rfl; apply r_op; exact rfl; exact rfl; apply g_pick; apply a_pickF rfl (by assumption); (conv => (lhs; whnf)); (with_reducible refine runs_done ?_)
          refine W.cond rfl (fun hc => ?_) (fun hc => ?_); rotate_left; refine W.skip ?_; show W _ _ _ _ _ _ _; refine W.seq ?_; refine W.regionL (by decide +kernel) rfl ?_; apply r_op; exact rfl; exact rfl; apply a_move; (conv => (lhs; whnf)); apply r_op; exact rfl; exact rfl; apply a_move; (conv => (lhs; whnf)); apply r_op; exact rfl; exact rfl; apply a_move; (conv => (lhs; whnf)); apply r_op
          exact rfl; exact rfl; apply g_binOp; exact a_add64 rfl rfl (by omega); apply r_op; exact rfl; exact rfl; apply g_binOp; exact a_add64 rfl rfl (by omega); apply r_op; exact rfl; exact rfl; apply a_assign; (conv => (lhs; whnf)); apply r_op; exact rfl; exact rfl; apply a_assign; (conv => (lhs; whnf)); apply r_op; exact rfl; exact rfl; apply a_assign; (conv => (lhs; whnf))
          (with_reducible refine runs_done ?_); refine W.ret ?_; show Q Exit.ret _ _; refine post_q hQ (by apply res_tmp; exact rfl; apply res_tmp; exact rfl; apply res_tmp; exact rfl; exact res_nil) (.inl rfl) (by exact .refl _) ?_; (conv => (lhs; whnf)); rotate_left; apply q_skip; exact rfl; exact want_f rfl rfl rfl (by assumption); apply q_skip; exact rfl
          exact want_f rfl rfl rfl (by assumption); apply r_op; exact rfl; exact rfl; apply g_pick; apply a_pickF rfl (by assumption); (conv => (lhs; whnf)); apply r_op; exact rfl; exact rfl; apply a_move; (conv => (lhs; whnf)); apply r_op; exact rfl; exact rfl; apply a_move; (conv => (lhs; whnf)); apply r_op; exact rfl; exact rfl; apply g_binOp; exact a_binI rfl rfl rfl; apply r_op; exact rfl
          exact rfl; apply g_pick; apply a_pickF rfl (by exact rfl); (conv => (lhs; whnf)); (with_reducible refine runs_done ?_); refine W.cond rfl (fun hc => ?_) (fun hc => ?_); rotate_left; refine W.skip ?_; show W _ _ _ _ _ _ _; refine W.seq ?_; refine W.regionL (by decide +kernel) rfl ?_; apply r_op; exact rfl; exact rfl; apply a_move; (conv => (lhs; whnf)); apply r_op; exact rfl; exact rfl
          apply a_move; (conv => (lhs; whnf)); apply r_op; exact rfl; exact rfl; apply a_move; (conv => (lhs; whnf)); apply r_op; exact rfl; exact rfl; apply g_binOp; exact a_add64 rfl rfl (by omega); apply r_op; exact rfl; exact rfl; apply g_binOp; exact a_add64 rfl rfl (by omega); apply r_op; exact rfl; exact rfl; apply a_assign; (conv => (lhs; whnf)); apply r_op; exact rfl; exact rfl
          apply a_assign; (conv => (lhs; whnf)); apply r_op; exact rfl; exact rfl; apply a_assign; (conv => (lhs; whnf)); (with_reducible refine runs_done ?_); refine W.ret ?_; show Q Exit.ret _ _; refine post_q hQ (by apply res_tmp; exact rfl; apply res_tmp; exact rfl; apply res_tmp; exact rfl; exact res_nil) (.inl rfl) (by exact .refl _) ?_; (conv => (lhs; whnf)); rotate_left
          · have hq : (c.toNat = 0 ∧ 0 < i ∨ 9007199254740992 < m) := by
              simp only [decide_eq_true_eq, decide_eq_false_iff_not] at *; omega
            rw [if_pos hq] at hgn
            refine W.goto ?_; refine ⟨_, rfl, ?_⟩; show W _ _ _ _ _ _ _; refine W.seq ?_; refine W.skip ?_; show W _ _ _ _ _ _ _; refine W.seq ?_; refine W.seq ?_; refine W.regionL (by decide +kernel) rfl ?_; apply r_op; exact rfl; exact rfl; apply a_assign; (conv => (lhs; whnf)); apply r_op; exact rfl; exact rfl; apply a_assign; (conv => (lhs; whnf)); apply r_op; exact rfl; exact rfl
            apply a_assign; (conv => (lhs; whnf)); (with_reducible refine runs_done ?_); refine W.ret ?_; show Q Exit.ret _ _; refine post_q hQ (by apply res_tmp; exact rfl; apply res_tmp; exact rfl; apply res_tmp; exact rfl; exact res_nil) (.inl rfl) (by exact .refl _) ?_; (conv => (lhs; whnf))
            rw [hgn]; rfl
          · have hq : (c.toNat = 0 ∧ 0 < i ∨ 9007199254740992 < m) := by
              simp only [decide_eq_true_eq, decide_eq_false_iff_not] at *; omega
            rw [if_pos hq] at hgn
            refine W.goto ?_; refine ⟨_, rfl, ?_⟩; show W _ _ _ _ _ _ _; refine W.seq ?_; refine W.skip ?_; show W _ _ _ _ _ _ _; refine W.seq ?_; refine W.seq ?_; refine W.regionL (by decide +kernel) rfl ?_; apply r_op; exact rfl; exact rfl; apply a_assign; (conv => (lhs; whnf)); apply r_op; exact rfl; exact rfl; apply a_assign; (conv => (lhs; whnf)); apply r_op; exact rfl; exact rfl
            apply a_assign; (conv => (lhs; whnf)); (with_reducible refine runs_done ?_); refine W.ret ?_; show Q Exit.ret _ _; refine post_q hQ (by apply res_tmp; exact rfl; apply res_tmp; exact rfl; apply res_tmp; exact rfl; exact res_nil) (.inl rfl) (by exact .refl _) ?_; (conv => (lhs; whnf))
            rw [hgn]; rfl
          · have hq : ¬ (c.toNat = 0 ∧ 0 < i ∨ 9007199254740992 < m) := by
              simp only [decide_eq_true_eq, decide_eq_false_iff_not] at *; omega
            rw [if_neg hq] at hgn
            rw [hgn]; rfl
          · have hq : (c.toNat = 0 ∧ 0 < i ∨ 9007199254740992 < m) := by
              simp only [decide_eq_true_eq, decide_eq_false_iff_not] at *; omega
            rw [if_pos hq] at hgn
            refine W.goto ?_; refine ⟨_, rfl, ?_⟩; show W _ _ _ _ _ _ _; refine W.seq ?_; refine W.skip ?_; show W _ _ _ _ _ _ _; refine W.seq ?_; refine W.seq ?_; refine W.regionL (by decide +kernel) rfl ?_; apply r_op; exact rfl; exact rfl; apply a_assign; (conv => (lhs; whnf)); apply r_op; exact rfl; exact rfl; apply a_assign; (conv => (lhs; whnf)); apply r_op; exact rfl; exact rfl
            apply a_assign; (conv => (lhs; whnf)); (with_reducible refine runs_done ?_); refine W.ret ?_; show Q Exit.ret _ _; refine post_q hQ (by apply res_tmp; exact rfl; apply res_tmp; exact rfl; apply res_tmp; exact rfl; exact res_nil) (.inl rfl) (by exact .refl _) ?_; (conv => (lhs; whnf))
            rw [hgn]; rfl
          · have hq : ¬ (c.toNat = 0 ∧ 0 < i ∨ 9007199254740992 < m) := by
              simp only [decide_eq_true_eq, decide_eq_false_iff_not] at *; omega
            rw [if_neg hq] at hgn
            rw [hgn]; rfl
        · have hc1 : ¬ c.toNat < 128 := fun h => absurd (show (((c &&& Al.byteOf 128).toNat : Nat) : Int) = 0 by have := h128.2 h; omega) (of_decide_eq_false hc)
          rw [if_neg hc1] at hgn
          refine W.skip ?_; show W _ _ _ _ _ _ _; refine W.regionL (by decide +kernel) rfl ?_; apply r_op; exact rfl; exact rfl; apply a_move; (conv => (lhs; whnf)); apply r_op; exact rfl; exact rfl; apply g_binOp; exact a_add64 rfl rfl (by omega); apply r_op; exact rfl; exact rfl; apply a_assign; (conv => (lhs; whnf)); (with_reducible refine runs_done ?_)
          exact ⟨k, by omega, i + 1, m, by omega, hn', by omega, hgn, rfl, by exact Has.by (by repeat (first | exact trivial | refine ⟨by first | trivial | exact Weak.refl _ | exact Weak.tok _ _ _ | exact Weak.of_eq (congrArg (AV.int _) (by (first | exact h7 | omega))) | exact Weak.of_eq (congrArg AV.bool (by fail)) | exact Weak.nils _ _ (.inr rfl), ?_⟩))⟩
    · have h8 : i = 8 := by simp at hc; omega
      obtain rfl : k = 0 := by omega
      refine W.exit ?_; show W _ _ _ _ _ _ _; refine W.seq ?_; refine W.label ?_; show W _ _ _ _ _ _ _; refine W.seq ?_; refine W.seq ?_; refine W.regionL (by decide +kernel) rfl ?_; apply r_op; exact rfl; exact rfl; apply a_assign; (conv => (lhs; whnf)); apply r_op; exact rfl; exact rfl; apply a_assign; (conv => (lhs; whnf)); apply r_op; exact rfl; exact rfl; apply a_assign; (conv => (lhs; whnf))
      (with_reducible refine runs_done ?_); refine W.ret ?_; show Q Exit.ret _ _; refine post_q hQ (by apply res_tmp; exact rfl; apply res_tmp; exact rfl; apply res_tmp; exact rfl; exact res_nil) (.inl rfl) (by exact .refl _) ?_; (conv => (lhs; whnf))
      rw [hgn, gn]; rfl
end Go.Proofs.YtkbmkhhcppfcnaaDoor
end
section
set_option linter.unusedVariables false
set_option linter.unusedSimpArgs false
set_option maxRecDepth 100000
set_option maxHeartbeats 1000000
namespace Go.Proofs.YtkbmkhhcppfcnaaDoor
open Go.Al Go.RowKit
theorem gn_le : ∀ (b : List UInt8) (a k i n : Nat), a + i ≤ b.length → i + k ≤ 8 → (gn b a k i n).2.1 ≤ b.length ∧ (gn b a k i n).1 ≤ 9007199254740992 ∧ (gn b a k i n).2.2 ≤ 11
  | b, a, 0, i, n, h, _ => by simp [gn]
  | b, a, k + 1, i, n, h, h8 => by
    rw [gn]
    split
    · simp
    · rename_i hne
      dsimp only
      split
      · split
        · simp
        · rename_i hq
          refine ⟨?_, ?_, by simp⟩ <;> simp only <;> omega
      · exact gn_le b a k (i + 1) _ (by omega) (by omega)
theorem getNum_le (b : List UInt8) (a : Nat) : (getNum b a).2.1 ≤ b.length ∧ (getNum b a).1 ≤ 9007199254740992 ∧ (getNum b a).2.2 ≤ 11 := by
  unfold getNum
  split
  · simp
  · exact gn_le b a 8 0 0 (by omega) (by omega)
def getText (b : List UInt8) (a most : Nat) : List UInt8 × Nat × Nat :=
  let p := getNum b a
  if p.2.2 ≠ 0 then ([], 0, p.2.2) else if most < p.1 then ([], 0, 3) else if b.length < p.1 + p.2.1 then ([], 0, 10) else ((b.take (p.2.1 + p.1)).drop p.2.1, p.2.1 + p.1, 0)
def eT (p : List UInt8 × Nat × Nat) : AV := .tup [.str p.1, .int .i64 p.2.1, .int .u16 p.2.2]
theorem getText_any (w0 : Base) (b : List UInt8) (t : Tok) (a most : Nat) (hb : b.length ≤ 1000000) (ha : a ≤ 1000000) (hm : most ≤ 1000000) : CallP Tryd.prog w0 95 [.slc 1 (aBytes b) t, .int .i64 a, .int .i64 most] (eT (getText b a most)) := by
  refine CallP.start Tryd.func95 rfl Tryd.ntmps95 (by simp) fun σ Q hQ => ?_
  obtain ⟨h1, h2, h3⟩ := getNum_le b a
  have hg := getNum_any w0 b t a (by omega) (by omega)
  unfold getText at hQ
  generalize getNum b a = p at hg h1 h2 h3 hQ
  obtain ⟨n, k, e⟩ := p
  rw [e3] at hg
  dsimp only at h1 h2 h3 hg hQ
  refine W.seq ?_; refine W.regionL (by decide +kernel) rfl ?_; apply r_op; exact rfl; exact rfl; apply a_assign; (conv => (lhs; whnf)); apply r_op; exact rfl; exact rfl; apply a_assign; (conv => (lhs; whnf)); apply r_op; exact rfl; exact rfl; apply a_assign; (conv => (lhs; whnf)); (with_reducible refine runs_done ?_); refine W.seq ?_; refine W.regionL (by decide +kernel) rfl ?_; apply r_op
  exact rfl; exact rfl; apply a_move; (conv => (lhs; whnf)); apply r_op; exact rfl; exact rfl; apply a_move; (conv => (lhs; whnf)); apply r_callP; exact rfl; exact rfl; exact rfl; exact rfl; exact rfl; infer_instance; exact hg; apply r_op; exact rfl; exact rfl; apply a_move; (conv => (lhs; whnf)); apply r_op; exact rfl; exact rfl; apply g_extract; exact a_extract rfl rfl; apply r_op; exact rfl
  exact rfl; apply g_extract; exact a_extract rfl rfl; apply r_op; exact rfl; exact rfl; apply g_extract; exact a_extract rfl rfl; apply r_op; exact rfl; exact rfl; apply a_assign; (conv => (lhs; whnf)); apply r_op; exact rfl; exact rfl; apply a_assign; (conv => (lhs; whnf)); apply r_op; exact rfl; exact rfl; apply a_assign; (conv => (lhs; whnf)); (with_reducible refine runs_done ?_); refine W.seq ?_
  refine W.block ?_; refine W.seq ?_; refine W.regionL (by decide +kernel) rfl ?_; apply r_op; exact rfl; exact rfl; apply a_move; (conv => (lhs; whnf)); apply r_op; exact rfl; exact rfl; apply g_binOp; exact a_binI rfl rfl rfl; apply r_op; exact rfl; exact rfl; apply a_assign; (conv => (lhs; whnf)); (with_reducible refine runs_done ?_); refine W.cond rfl (fun hc => ?_) (fun hc => ?_)
  refine W.seq ?_; refine W.regionL (by decide +kernel) rfl ?_; apply r_op; exact rfl; exact rfl; apply a_move; (conv => (lhs; whnf)); apply r_op; exact rfl; exact rfl; apply a_assign; (conv => (lhs; whnf)); apply r_op; exact rfl; exact rfl; apply a_assign; (conv => (lhs; whnf)); apply r_op; exact rfl; exact rfl; apply a_assign; (conv => (lhs; whnf)); (with_reducible refine runs_done ?_)
  refine W.ret ?_; show Q Exit.ret _ _; refine post_q hQ (by apply res_tmp; exact rfl; apply res_tmp; exact rfl; apply res_tmp; exact rfl; exact res_nil) (.inl rfl) (by exact .refl _) ?_; (conv => (lhs; whnf)); rotate_left; refine W.seq ?_; refine W.regionL (by decide +kernel) rfl ?_; apply r_op; exact rfl; exact rfl; apply a_move; (conv => (lhs; whnf)); apply r_op; exact rfl; exact rfl
  apply a_move; (conv => (lhs; whnf)); apply r_op; exact rfl; exact rfl; apply g_binOp; exact a_binI rfl rfl rfl; apply r_op; exact rfl; exact rfl; apply a_assign; (conv => (lhs; whnf)); (with_reducible refine runs_done ?_); refine W.cond rfl (fun hc => ?_) (fun hc => ?_); refine W.seq ?_; refine W.regionL (by decide +kernel) rfl ?_; apply r_op; exact rfl; exact rfl; apply a_assign
  (conv => (lhs; whnf)); apply r_op; exact rfl; exact rfl; apply a_assign; (conv => (lhs; whnf)); apply r_op; exact rfl; exact rfl; apply a_assign; (conv => (lhs; whnf)); (with_reducible refine runs_done ?_); refine W.ret ?_; show Q Exit.ret _ _; refine post_q hQ (by apply res_tmp; exact rfl; apply res_tmp; exact rfl; apply res_tmp; exact rfl; exact res_nil) (.inl rfl) (by exact .refl _) ?_
  (conv => (lhs; whnf)); rotate_left; refine W.seq ?_; refine W.regionL (by decide +kernel) rfl ?_; apply r_op; exact rfl; exact rfl; apply a_move; (conv => (lhs; whnf)); apply r_op; exact rfl; exact rfl; apply a_move; (conv => (lhs; whnf)); apply r_op; exact rfl; exact rfl; apply g_call; exact a_len_slc rfl; apply r_op; exact rfl; exact rfl; apply a_move; (conv => (lhs; whnf)); apply r_op
  exact rfl; exact rfl; apply g_binOp; exact a_sub64 rfl rfl (by simp only [List.length_cons, List.length_append, List.length_nil, List.length_map, length_aBytes, List.length_replicate, List.length_range]; omega); apply r_op; exact rfl; exact rfl; apply g_binOp; exact a_binI rfl rfl rfl; apply r_op; exact rfl; exact rfl; apply a_assign; (conv => (lhs; whnf)); (with_reducible refine runs_done ?_)
  refine W.cond rfl (fun hc => ?_) (fun hc => ?_); refine W.seq ?_; refine W.regionL (by decide +kernel) rfl ?_; apply r_op; exact rfl; exact rfl; apply a_assign; (conv => (lhs; whnf)); apply r_op; exact rfl; exact rfl; apply a_assign; (conv => (lhs; whnf)); apply r_op; exact rfl; exact rfl; apply a_assign; (conv => (lhs; whnf)); (with_reducible refine runs_done ?_); refine W.ret ?_
  show Q Exit.ret _ _; refine post_q hQ (by apply res_tmp; exact rfl; apply res_tmp; exact rfl; apply res_tmp; exact rfl; exact res_nil) (.inl rfl) (by exact .refl _) ?_; (conv => (lhs; whnf)); rotate_left; refine W.skip ?_; show W _ _ _ _ _ _ _; refine W.seq ?_; refine W.regionL (by decide +kernel) rfl ?_; apply r_op; exact rfl; exact rfl; apply a_move; (conv => (lhs; whnf)); apply r_op; exact rfl
  exact rfl; apply a_move; (conv => (lhs; whnf)); apply r_op; exact rfl; exact rfl; apply a_move; (conv => (lhs; whnf)); apply r_op; exact rfl; exact rfl; apply a_move; (conv => (lhs; whnf)); apply r_op; exact rfl; exact rfl; apply g_binOp; exact a_add64 rfl rfl (by omega); rotate_left
  · have he : e ≠ 0 := by rintro rfl; simp at hc
    rw [if_pos he]; rfl
  · have he : e = 0 := by simpa using ‹(!decide ((e : Int) = 0)) = false›
    have hq := of_decide_eq_true hc
    subst he
    rw [if_neg (by simp), if_pos (by omega)]; rfl
  · have he : e = 0 := by simpa using ‹(!decide ((e : Int) = 0)) = false›
    have hq1 := of_decide_eq_false ‹decide ((most : Int) < (n : Int)) = false›
    have hq := of_decide_eq_true hc
    subst he
    rw [length_aBytes] at hq
    rw [if_neg (by simp), if_neg (by omega), if_pos (by omega)]; rfl
  · have he : e = 0 := by simpa using ‹(!decide ((e : Int) = 0)) = false›
    have hq1 := of_decide_eq_false ‹decide ((most : Int) < (n : Int)) = false›
    have hq := of_decide_eq_false hc
    subst he
    rw [length_aBytes] at hq
    have hla := length_aBytes b
    apply r_op; exact rfl; exact rfl; apply g_slice; exact a_sliceB rfl rfl rfl (by omega); apply r_op; exact rfl; exact rfl; apply g_convert; exact a_bytesStr rfl; apply r_op; exact rfl; exact rfl; apply a_move; (conv => (lhs; whnf)); apply r_op; exact rfl; exact rfl; apply a_move; (conv => (lhs; whnf)); apply r_op; exact rfl; exact rfl; apply g_binOp; exact a_add64 rfl rfl (by omega); apply r_op
    exact rfl; exact rfl; apply a_assign; (conv => (lhs; whnf)); apply r_op; exact rfl; exact rfl; apply a_assign; (conv => (lhs; whnf)); apply r_op; exact rfl; exact rfl; apply a_assign; (conv => (lhs; whnf)); (with_reducible refine runs_done ?_); refine W.ret ?_; show Q Exit.ret _ _
    refine post_q hQ (by apply res_tmp; exact rfl; apply res_tmp; exact rfl; apply res_tmp; exact rfl; exact res_nil) (.inl rfl) (by exact .refl _) ?_; (conv => (lhs; whnf))
    rw [if_neg (by simp), if_neg (by omega), if_neg (by omega)]
    have e1 : ((k : Int) + (n : Int)).toNat = k + n := by omega
    show AV.tup [.str ((b.take ((k : Int) + (n : Int)).toNat).drop ((k : Int)).toNat), .int .i64 ((k : Int) + (n : Int)), .int .u16 0] = _
    rw [e1]; rfl
def fE : Option Nat → AV
  | none => .nilifc
  | some e => .ifc 140 (.agg [.int .u16 e])
def rd (v : List UInt8) (a : Nat) (f : Option Nat) : List AV := [.slc 1 (aBytes v) .no, .int .i64 a, fE f]
def atN (a k e : Nat) : Nat := if e = 0 then k else a
def errN (e : Nat) (f : Option Nat) : Option Nat := if e = 0 then f else match f with
  | none => some e
  | some g => some g
def rNum (v : List UInt8) (a : Nat) (f : Option Nat) : Nat × Nat × Option Nat :=
  let p := getNum v a
  (if (errN p.2.2 f).isNone then p.1 else 0, atN a p.2.1 p.2.2, errN p.2.2 f)
def rText (v : List UInt8) (a : Nat) (f : Option Nat) (most : Nat) : List UInt8 × Nat × Option Nat :=
  let p := getText v a most
  (if (errN p.2.2 f).isNone then p.1 else [], atN a p.2.1 p.2.2, errN p.2.2 f)
end Go.Proofs.YtkbmkhhcppfcnaaDoor
end
section
set_option linter.unusedVariables false
set_option linter.unusedSimpArgs false
set_option maxHeartbeats 400000
namespace Go.Proofs.YtkbmkhhcppfcnaaDoor
open Go.Al Go.RowKit
theorem row_ext {x y : Row} (h : x.key = y.key) (k : x.val = y.val) : x = y := by cases x; cases y; simp_all
theorem take_succ_iff {α : Type} {a b : List α} {i : Nat} (h : i < a.length) (k : i < b.length) (e : a.take i = b.take i) : a.take (i + 1) = b.take (i + 1) ↔ a[i] = b[i] := by
  rw [List.take_succ_eq_append_getElem h, List.take_succ_eq_append_getElem k, e]
  exact ⟨fun h => by simpa using List.append_cancel_left h, fun h => by rw [h]⟩
end Go.Proofs.YtkbmkhhcppfcnaaDoor
end
section
set_option linter.unusedVariables false
set_option linter.unusedSimpArgs false
set_option maxRecDepth 100000
set_option maxHeartbeats 1000000
namespace Go.Proofs.YtkbmkhhcppfcnaaDoor
open Go.Al Go.RowKit
theorem sub48 {c : UInt8} (h : 48 ≤ c.toNat ∧ c.toNat ≤ 57) : IntKind.i64.wrap (((Al.byteOf ((c.toNat : Int) - 48)).toNat : Nat) : Int) = ((c.toNat - 48 : Nat) : Int) := by
  have e : ((c.toNat : Int) - 48) = ((c.toNat - 48 : Nat) : Int) := by omega
  rw [e, byteOf_toNat _ (by omega), IntWalk.i64_in _ (by omega)]
end Go.Proofs.YtkbmkhhcppfcnaaDoor
end
section
set_option linter.unusedVariables false
set_option maxRecDepth 100000
namespace Go.Proofs.YtkbmkhhcppfcnaaDoor.Ty
open Go.Al
theorem ti1 : TI.ok Tryd.prog 1 ⟨.fn, 1⟩ := ⟨⟨_, _, _, ⟨Tryd.underlying1⟩⟩, ⟨⟨Ty.size1⟩, by kernel_rfl⟩⟩
theorem ti2 : TI.ok Tryd.prog 2 ⟨.int .i64, 1⟩ := ⟨⟨Tryd.underlying2⟩, ⟨⟨Ty.size2⟩, by kernel_rfl⟩⟩
theorem ti3 : TI.ok Tryd.prog 3 ⟨.int .i64, 1⟩ := ⟨⟨Tryd.underlying3⟩, ⟨⟨Ty.size3⟩, by kernel_rfl⟩⟩
theorem ti4 : TI.ok Tryd.prog 4 ⟨.bool, 1⟩ := ⟨⟨Tryd.underlying4⟩, ⟨⟨Ty.size4⟩, by kernel_rfl⟩⟩
theorem ti5 : TI.ok Tryd.prog 5 ⟨.int .u8, 1⟩ := ⟨⟨Tryd.underlying5⟩, ⟨⟨Ty.size5⟩, by kernel_rfl⟩⟩
theorem ti9 : TI.ok Tryd.prog 9 ⟨.str, 1⟩ := ⟨⟨Tryd.underlying9⟩, ⟨⟨Ty.size9⟩, by kernel_rfl⟩⟩
theorem ti20 : TI.ok Tryd.prog 20 ⟨.ifc, 1⟩ := ⟨⟨_, Tryd.underlying20⟩, ⟨⟨Ty.size20⟩, by kernel_rfl⟩⟩
theorem ti21 : TI.ok Tryd.prog 21 ⟨.int .i32, 1⟩ := ⟨⟨Tryd.underlying21⟩, ⟨⟨Ty.size21⟩, by kernel_rfl⟩⟩
theorem ti22 : TI.ok Tryd.prog 22 ⟨.slc 5 1 true, 1⟩ := ⟨⟨⟨Tryd.underlying22⟩, ⟨⟨Ty.size22⟩, by kernel_rfl⟩⟩, ⟨Ty.size5⟩, (fun _ => ⟨Tryd.underlying5⟩), inferInstance⟩
theorem ti24 : TI.ok Tryd.prog 24 ⟨.slc 3 1 false, 1⟩ := ⟨⟨⟨Tryd.underlying24⟩, ⟨⟨Ty.size24⟩, by kernel_rfl⟩⟩, ⟨Ty.size3⟩, (fun h => Bool.noConfusion h), inferInstance⟩
theorem ti25 : TI.ok Tryd.prog 25 ⟨.slc 46 8 false, 1⟩ := ⟨⟨⟨Tryd.underlying25⟩, ⟨⟨Ty.size25⟩, by kernel_rfl⟩⟩, ⟨Ty.size46⟩, (fun h => Bool.noConfusion h), inferInstance⟩
theorem ti27 : TI.ok Tryd.prog 27 ⟨.struct [(0, 1, false), (1, 1, false), (2, 1, false), (3, 1, false), (4, 1, false), (5, 1, false), (6, 1, false), (7, 1, false), (8, 1, false), (9, 1, false)] [(.int .i64 0), .str [], .str [], .str [], (.int .i64 0), (.int .i64 0), (.int .i64 0), .nils, .nils, .str []], 10⟩ := ⟨⟨⟨_, Tryd.underlying27, rfl⟩, ⟨Ty.size27⟩⟩, ⟨⟨3, inferInstanceAs (TyF Tryd.prog 27 0 3 0 1 false)⟩, ⟨⟨9, inferInstanceAs (TyF Tryd.prog 27 1 9 1 1 false)⟩, ⟨⟨9, inferInstanceAs (TyF Tryd.prog 27 2 9 2 1 false)⟩, ⟨⟨9, inferInstanceAs (TyF Tryd.prog 27 3 9 3 1 false)⟩, ⟨⟨3, inferInstanceAs (TyF Tryd.prog 27 4 3 4 1 false)⟩, ⟨⟨3, inferInstanceAs (TyF Tryd.prog 27 5 3 5 1 false)⟩, ⟨⟨3, inferInstanceAs (TyF Tryd.prog 27 6 3 6 1 false)⟩, ⟨⟨24, inferInstanceAs (TyF Tryd.prog 27 7 24 7 1 false)⟩, ⟨⟨25, inferInstanceAs (TyF Tryd.prog 27 8 25 8 1 false)⟩, ⟨⟨9, inferInstanceAs (TyF Tryd.prog 27 9 9 9 1 false)⟩, trivial⟩⟩⟩⟩⟩⟩⟩⟩⟩⟩, by kernel_rfl, .struct Tryd.underlying27 Ty.zero27 rfl rfl rfl rfl⟩
theorem ti30 : TI.ok Tryd.prog 30 ⟨.slc 43 2 false, 1⟩ := ⟨⟨⟨Tryd.underlying30⟩, ⟨⟨Ty.size30⟩, by kernel_rfl⟩⟩, ⟨Ty.size43⟩, (fun h => Bool.noConfusion h), inferInstance⟩
theorem ti33 : TI.ok Tryd.prog 33 ⟨.int .u16, 1⟩ := ⟨⟨Tryd.underlying33⟩, ⟨⟨Ty.size33⟩, by kernel_rfl⟩⟩
theorem ti34 : TI.ok Tryd.prog 34 ⟨.int .u16, 1⟩ := ⟨⟨Tryd.underlying34⟩, ⟨⟨Ty.size34⟩, by kernel_rfl⟩⟩
theorem ti43 : TI.ok Tryd.prog 43 ⟨.struct [(0, 1, false), (1, 1, false)] [.str [], .nils], 2⟩ := ⟨⟨⟨_, Tryd.underlying43, rfl⟩, ⟨Ty.size43⟩⟩, ⟨⟨9, inferInstanceAs (TyF Tryd.prog 43 0 9 0 1 false)⟩, ⟨⟨22, inferInstanceAs (TyF Tryd.prog 43 1 22 1 1 false)⟩, trivial⟩⟩, by kernel_rfl, .struct Tryd.underlying43 Ty.zero43 rfl rfl rfl rfl⟩
theorem ti46 : TI.ok Tryd.prog 46 ⟨.struct [(0, 1, false), (1, 1, false), (2, 1, false), (3, 1, false), (4, 1, false), (5, 1, false), (6, 1, false), (7, 1, false)] [(.int .i64 0), .str [], .str [], (.int .i64 0), (.int .i64 0), (.bool false), .str [], (.int .i64 0)], 8⟩ := ⟨⟨⟨_, Tryd.underlying46, rfl⟩, ⟨Ty.size46⟩⟩, ⟨⟨3, inferInstanceAs (TyF Tryd.prog 46 0 3 0 1 false)⟩, ⟨⟨9, inferInstanceAs (TyF Tryd.prog 46 1 9 1 1 false)⟩, ⟨⟨9, inferInstanceAs (TyF Tryd.prog 46 2 9 2 1 false)⟩, ⟨⟨3, inferInstanceAs (TyF Tryd.prog 46 3 3 3 1 false)⟩, ⟨⟨3, inferInstanceAs (TyF Tryd.prog 46 4 3 4 1 false)⟩, ⟨⟨4, inferInstanceAs (TyF Tryd.prog 46 5 4 5 1 false)⟩, ⟨⟨9, inferInstanceAs (TyF Tryd.prog 46 6 9 6 1 false)⟩, ⟨⟨3, inferInstanceAs (TyF Tryd.prog 46 7 3 7 1 false)⟩, trivial⟩⟩⟩⟩⟩⟩⟩⟩, by kernel_rfl, .struct Tryd.underlying46 Ty.zero46 rfl rfl rfl rfl⟩
theorem ti48 : TI.ok Tryd.prog 48 ⟨.slc 33 1 false, 1⟩ := ⟨⟨⟨Tryd.underlying48⟩, ⟨⟨Ty.size48⟩, by kernel_rfl⟩⟩, ⟨Ty.size33⟩, (fun h => Bool.noConfusion h), inferInstance⟩
theorem ti51 : TI.ok Tryd.prog 51 ⟨.slc 5 1 true, 1⟩ := ⟨⟨⟨Tryd.underlying51⟩, ⟨⟨Ty.size51⟩, by kernel_rfl⟩⟩, ⟨Ty.size5⟩, (fun _ => ⟨Tryd.underlying5⟩), inferInstance⟩
theorem ti61 : TI.ok Tryd.prog 61 ⟨.ptr, 1⟩ := ⟨⟨_, ⟨Tryd.underlying61⟩⟩, ⟨⟨Ty.size61⟩, by kernel_rfl⟩⟩
theorem ti63 : TI.ok Tryd.prog 63 ⟨.struct [(0, 1, false), (1, 1, false)] [.nils, (.int .i64 0)], 2⟩ := ⟨⟨⟨_, Tryd.underlying63, rfl⟩, ⟨Ty.size63⟩⟩, ⟨⟨22, inferInstanceAs (TyF Tryd.prog 63 0 22 0 1 false)⟩, ⟨⟨3, inferInstanceAs (TyF Tryd.prog 63 1 3 1 1 false)⟩, trivial⟩⟩, by kernel_rfl, .struct Tryd.underlying63 Ty.zero63 rfl rfl rfl rfl⟩
theorem ti65 : TI.ok Tryd.prog 65 ⟨.ifc, 1⟩ := ⟨⟨_, Tryd.underlying65⟩, ⟨⟨Ty.size65⟩, by kernel_rfl⟩⟩
theorem ti67 : TI.ok Tryd.prog 67 ⟨.struct [(0, 2, true), (2, 1, false)] [.nils, (.int .i64 0), .nilifc], 3⟩ := ⟨⟨⟨_, Tryd.underlying67, rfl⟩, ⟨Ty.size67⟩⟩, ⟨⟨63, inferInstanceAs (TyF Tryd.prog 67 0 63 0 2 true)⟩, ⟨⟨65, inferInstanceAs (TyF Tryd.prog 67 1 65 2 1 false)⟩, trivial⟩⟩, by kernel_rfl, .struct Tryd.underlying67 Ty.zero67 rfl rfl rfl rfl⟩
theorem ti71 : TI.ok Tryd.prog 71 ⟨.fn, 1⟩ := ⟨⟨_, _, _, ⟨Tryd.underlying71⟩⟩, ⟨⟨Ty.size71⟩, by kernel_rfl⟩⟩
theorem ti79 : TI.ok Tryd.prog 79 ⟨.fn, 1⟩ := ⟨⟨_, _, _, ⟨Tryd.underlying79⟩⟩, ⟨⟨Ty.size79⟩, by kernel_rfl⟩⟩
theorem ti82 : TI.ok Tryd.prog 82 ⟨.ptr, 1⟩ := ⟨⟨_, ⟨Tryd.underlying82⟩⟩, ⟨⟨Ty.size82⟩, by kernel_rfl⟩⟩
theorem ti84 : TI.ok Tryd.prog 84 ⟨.struct [(0, 10, true), (10, 1, false), (11, 1, false)] [(.int .i64 0), .str [], .str [], .str [], (.int .i64 0), (.int .i64 0), (.int .i64 0), .nils, .nils, .str [], (.int .i64 0), .nilp], 12⟩ := ⟨⟨⟨_, Tryd.underlying84, rfl⟩, ⟨Ty.size84⟩⟩, ⟨⟨27, inferInstanceAs (TyF Tryd.prog 84 0 27 0 10 true)⟩, ⟨⟨3, inferInstanceAs (TyF Tryd.prog 84 1 3 10 1 false)⟩, ⟨⟨82, inferInstanceAs (TyF Tryd.prog 84 2 82 11 1 false)⟩, trivial⟩⟩⟩, by kernel_rfl, .struct Tryd.underlying84 Ty.zero84 rfl rfl rfl rfl⟩
theorem ti87 : TI.ok Tryd.prog 87 ⟨.struct [(0, 1, false), (1, 1, false), (2, 1, false)] [.nils, (.int .i64 0), (.bool false)], 3⟩ := ⟨⟨⟨_, Tryd.underlying87, rfl⟩, ⟨Ty.size87⟩⟩, ⟨⟨22, inferInstanceAs (TyF Tryd.prog 87 0 22 0 1 false)⟩, ⟨⟨3, inferInstanceAs (TyF Tryd.prog 87 1 3 1 1 false)⟩, ⟨⟨4, inferInstanceAs (TyF Tryd.prog 87 2 4 2 1 false)⟩, trivial⟩⟩⟩, by kernel_rfl, .struct Tryd.underlying87 Ty.zero87 rfl rfl rfl rfl⟩
theorem ti90 : TI.ok Tryd.prog 90 ⟨.fn, 1⟩ := ⟨⟨_, _, _, ⟨Tryd.underlying90⟩⟩, ⟨⟨Ty.size90⟩, by kernel_rfl⟩⟩
theorem ti91 : TI.ok Tryd.prog 91 ⟨.fn, 1⟩ := ⟨⟨_, _, _, ⟨Tryd.underlying91⟩⟩, ⟨⟨Ty.size91⟩, by kernel_rfl⟩⟩
theorem ti96 : TI.ok Tryd.prog 96 ⟨.fn, 1⟩ := ⟨⟨_, _, _, ⟨Tryd.underlying96⟩⟩, ⟨⟨Ty.size96⟩, by kernel_rfl⟩⟩
theorem ti98 : TI.ok Tryd.prog 98 ⟨.struct [(0, 1, false), (1, 1, false)] [(.int .u8 0), .nilfn], 2⟩ := ⟨⟨⟨_, Tryd.underlying98, rfl⟩, ⟨Ty.size98⟩⟩, ⟨⟨5, inferInstanceAs (TyF Tryd.prog 98 0 5 0 1 false)⟩, ⟨⟨96, inferInstanceAs (TyF Tryd.prog 98 1 96 1 1 false)⟩, trivial⟩⟩, by kernel_rfl, .struct Tryd.underlying98 Ty.zero98 rfl rfl rfl rfl⟩
theorem ti99 : TI.ok Tryd.prog 99 ⟨.arr 6 98 2 true [(.int .u8 0), .nilfn, (.int .u8 0), .nilfn, (.int .u8 0), .nilfn, (.int .u8 0), .nilfn, (.int .u8 0), .nilfn, (.int .u8 0), .nilfn], 12⟩ := ⟨⟨⟨Tryd.underlying99⟩, ⟨Ty.size99⟩⟩, ⟨Ty.size98⟩, ⟨_, Tryd.underlying98, rfl⟩, by kernel_rfl, .array Tryd.underlying99 Ty.zero99 rfl Ty.size98 rfl⟩
theorem ti101 : TI.ok Tryd.prog 101 ⟨.ptr, 1⟩ := ⟨⟨_, ⟨Tryd.underlying101⟩⟩, ⟨⟨Ty.size101⟩, by kernel_rfl⟩⟩
theorem ti102 : TI.ok Tryd.prog 102 ⟨.ptr, 1⟩ := ⟨⟨_, ⟨Tryd.underlying102⟩⟩, ⟨⟨Ty.size102⟩, by kernel_rfl⟩⟩
theorem ti104 : TI.ok Tryd.prog 104 ⟨.ptr, 1⟩ := ⟨⟨_, ⟨Tryd.underlying104⟩⟩, ⟨⟨Ty.size104⟩, by kernel_rfl⟩⟩
theorem ti106 : TI.ok Tryd.prog 106 ⟨.struct [(0, 1, false), (1, 1, false), (2, 1, false)] [.nils, (.int .i64 0), (.bool false)], 3⟩ := ⟨⟨⟨_, Tryd.underlying106, rfl⟩, ⟨Ty.size106⟩⟩, ⟨⟨22, inferInstanceAs (TyF Tryd.prog 106 0 22 0 1 false)⟩, ⟨⟨3, inferInstanceAs (TyF Tryd.prog 106 1 3 1 1 false)⟩, ⟨⟨4, inferInstanceAs (TyF Tryd.prog 106 2 4 2 1 false)⟩, trivial⟩⟩⟩, by kernel_rfl, .struct Tryd.underlying106 Ty.zero106 rfl rfl rfl rfl⟩
theorem ti109 : TI.ok Tryd.prog 109 ⟨.slc 9 1 false, 1⟩ := ⟨⟨⟨Tryd.underlying109⟩, ⟨⟨Ty.size109⟩, by kernel_rfl⟩⟩, ⟨Ty.size9⟩, (fun h => Bool.noConfusion h), inferInstance⟩
theorem ti113 : TI.ok Tryd.prog 113 ⟨.arr 3 9 1 false [.str [], .str [], .str []], 3⟩ := ⟨⟨⟨Tryd.underlying113⟩, ⟨Ty.size113⟩⟩, ⟨Ty.size9⟩, ⟨_, Tryd.underlying9, rfl⟩, by kernel_rfl, .array Tryd.underlying113 Ty.zero113 rfl Ty.size9 rfl⟩
theorem ti117 : TI.ok Tryd.prog 117 ⟨.ptr, 1⟩ := ⟨⟨_, ⟨Tryd.underlying117⟩⟩, ⟨⟨Ty.size117⟩, by kernel_rfl⟩⟩
theorem ti118 : TI.ok Tryd.prog 118 ⟨.fn, 1⟩ := ⟨⟨_, _, _, ⟨Tryd.underlying118⟩⟩, ⟨⟨Ty.size118⟩, by kernel_rfl⟩⟩
theorem ti124 : TI.ok Tryd.prog 124 ⟨.fn, 1⟩ := ⟨⟨_, _, _, ⟨Tryd.underlying124⟩⟩, ⟨⟨Ty.size124⟩, by kernel_rfl⟩⟩
theorem ti127 : TI.ok Tryd.prog 127 ⟨.fn, 1⟩ := ⟨⟨_, _, _, ⟨Tryd.underlying127⟩⟩, ⟨⟨Ty.size127⟩, by kernel_rfl⟩⟩
theorem ti128 : TI.ok Tryd.prog 128 ⟨.slc 20 1 false, 1⟩ := ⟨⟨⟨Tryd.underlying128⟩, ⟨⟨Ty.size128⟩, by kernel_rfl⟩⟩, ⟨Ty.size20⟩, (fun h => Bool.noConfusion h), inferInstance⟩
theorem ti134 : TI.ok Tryd.prog 134 ⟨.fn, 1⟩ := ⟨⟨_, _, _, ⟨Tryd.underlying134⟩⟩, ⟨⟨Ty.size134⟩, by kernel_rfl⟩⟩
theorem ti136 : TI.ok Tryd.prog 136 ⟨.int .u64, 1⟩ := ⟨⟨Tryd.underlying136⟩, ⟨⟨Ty.size136⟩, by kernel_rfl⟩⟩
theorem ti140 : TI.ok Tryd.prog 140 ⟨.struct [(0, 1, false)] [(.int .u16 0)], 1⟩ := ⟨⟨⟨_, Tryd.underlying140, rfl⟩, ⟨Ty.size140⟩⟩, ⟨⟨34, inferInstanceAs (TyF Tryd.prog 140 0 34 0 1 false)⟩, trivial⟩, by kernel_rfl, .struct Tryd.underlying140 Ty.zero140 rfl rfl rfl rfl⟩
theorem ti141 : TI.ok Tryd.prog 141 ⟨.int .i64, 1⟩ := ⟨⟨Tryd.underlying141⟩, ⟨⟨Ty.size141⟩, by kernel_rfl⟩⟩
theorem ti144 : TI.ok Tryd.prog 144 ⟨.ptr, 1⟩ := ⟨⟨_, ⟨Tryd.underlying144⟩⟩, ⟨⟨Ty.size144⟩, by kernel_rfl⟩⟩
theorem ti150 : TI.ok Tryd.prog 150 ⟨.ptr, 1⟩ := ⟨⟨_, ⟨Tryd.underlying150⟩⟩, ⟨⟨Ty.size150⟩, by kernel_rfl⟩⟩
theorem ti152 : TI.ok Tryd.prog 152 ⟨.struct [(0, 1, false), (1, 1, false)] [.nilp, .nils], 2⟩ := ⟨⟨⟨_, Tryd.underlying152, rfl⟩, ⟨Ty.size152⟩⟩, ⟨⟨150, inferInstanceAs (TyF Tryd.prog 152 0 150 0 1 false)⟩, ⟨⟨22, inferInstanceAs (TyF Tryd.prog 152 1 22 1 1 false)⟩, trivial⟩⟩, by kernel_rfl, .struct Tryd.underlying152 (show (Tryd.prog.info? 152).bind (·.zero) = some (.agg #[(.pointer none), (.slice none 0 0)]) by kernel_rfl) rfl rfl rfl rfl⟩
theorem ti155 : TI.ok Tryd.prog 155 ⟨.int .u64, 1⟩ := ⟨⟨Tryd.underlying155⟩, ⟨⟨Ty.size155⟩, by kernel_rfl⟩⟩
theorem ti160 : TI.ok Tryd.prog 160 ⟨.struct [(0, 1, false), (1, 1, false), (2, 1, false)] [.str [], .str [], .nilifc], 3⟩ := ⟨⟨⟨_, Tryd.underlying160, rfl⟩, ⟨Ty.size160⟩⟩, ⟨⟨9, inferInstanceAs (TyF Tryd.prog 160 0 9 0 1 false)⟩, ⟨⟨9, inferInstanceAs (TyF Tryd.prog 160 1 9 1 1 false)⟩, ⟨⟨65, inferInstanceAs (TyF Tryd.prog 160 2 65 2 1 false)⟩, trivial⟩⟩⟩, by kernel_rfl, .struct Tryd.underlying160 Ty.zero160 rfl rfl rfl rfl⟩
theorem ti163 : TI.ok Tryd.prog 163 ⟨.int .u32, 1⟩ := ⟨⟨Tryd.underlying163⟩, ⟨⟨Ty.size163⟩, by kernel_rfl⟩⟩
theorem ti168 : TI.ok Tryd.prog 168 ⟨.ptr, 1⟩ := ⟨⟨_, ⟨Tryd.underlying168⟩⟩, ⟨⟨Ty.size168⟩, by kernel_rfl⟩⟩
theorem ti171 : TI.ok Tryd.prog 171 ⟨.ptr, 1⟩ := ⟨⟨_, ⟨Tryd.underlying171⟩⟩, ⟨⟨Ty.size171⟩, by kernel_rfl⟩⟩
theorem ti173 : TI.ok Tryd.prog 173 ⟨.struct [(0, 1, false)] [.str []], 1⟩ := ⟨⟨⟨_, Tryd.underlying173, rfl⟩, ⟨Ty.size173⟩⟩, ⟨⟨9, inferInstanceAs (TyF Tryd.prog 173 0 9 0 1 false)⟩, trivial⟩, by kernel_rfl, .struct Tryd.underlying173 Ty.zero173 rfl rfl rfl rfl⟩
theorem ti174 : TI.ok Tryd.prog 174 ⟨.arr 24 5 1 false [(.int .u8 0), (.int .u8 0), (.int .u8 0), (.int .u8 0), (.int .u8 0), (.int .u8 0), (.int .u8 0), (.int .u8 0), (.int .u8 0), (.int .u8 0), (.int .u8 0), (.int .u8 0), (.int .u8 0), (.int .u8 0), (.int .u8 0), (.int .u8 0), (.int .u8 0), (.int .u8 0), (.int .u8 0), (.int .u8 0), (.int .u8 0), (.int .u8 0), (.int .u8 0), (.int .u8 0)], 24⟩ := ⟨⟨⟨Tryd.underlying174⟩, ⟨Ty.size174⟩⟩, ⟨Ty.size5⟩, ⟨_, Tryd.underlying5, rfl⟩, by kernel_rfl, .array Tryd.underlying174 Ty.zero174 rfl Ty.size5 rfl⟩
theorem ti181 : TI.ok Tryd.prog 181 ⟨.arr 20 155 1 false [(.int .u64 0), (.int .u64 0), (.int .u64 0), (.int .u64 0), (.int .u64 0), (.int .u64 0), (.int .u64 0), (.int .u64 0), (.int .u64 0), (.int .u64 0), (.int .u64 0), (.int .u64 0), (.int .u64 0), (.int .u64 0), (.int .u64 0), (.int .u64 0), (.int .u64 0), (.int .u64 0), (.int .u64 0), (.int .u64 0)], 20⟩ := ⟨⟨⟨Tryd.underlying181⟩, ⟨Ty.size181⟩⟩, ⟨Ty.size155⟩, ⟨_, Tryd.underlying155, rfl⟩, by kernel_rfl, .array Tryd.underlying181 Ty.zero181 rfl Ty.size155 rfl⟩
theorem ti182 : TI.ok Tryd.prog 182 ⟨.arr 65 5 1 false [(.int .u8 0), (.int .u8 0), (.int .u8 0), (.int .u8 0), (.int .u8 0), (.int .u8 0), (.int .u8 0), (.int .u8 0), (.int .u8 0), (.int .u8 0), (.int .u8 0), (.int .u8 0), (.int .u8 0), (.int .u8 0), (.int .u8 0), (.int .u8 0), (.int .u8 0), (.int .u8 0), (.int .u8 0), (.int .u8 0), (.int .u8 0), (.int .u8 0), (.int .u8 0), (.int .u8 0), (.int .u8 0), (.int .u8 0), (.int .u8 0), (.int .u8 0), (.int .u8 0), (.int .u8 0), (.int .u8 0), (.int .u8 0), (.int .u8 0), (.int .u8 0), (.int .u8 0), (.int .u8 0), (.int .u8 0), (.int .u8 0), (.int .u8 0), (.int .u8 0), (.int .u8 0), (.int .u8 0), (.int .u8 0), (.int .u8 0), (.int .u8 0), (.int .u8 0), (.int .u8 0), (.int .u8 0), (.int .u8 0), (.int .u8 0), (.int .u8 0), (.int .u8 0), (.int .u8 0), (.int .u8 0), (.int .u8 0), (.int .u8 0), (.int .u8 0), (.int .u8 0), (.int .u8 0), (.int .u8 0), (.int .u8 0), (.int .u8 0), (.int .u8 0), (.int .u8 0), (.int .u8 0)], 65⟩ := ⟨⟨⟨Tryd.underlying182⟩, ⟨Ty.size182⟩⟩, ⟨Ty.size5⟩, ⟨_, Tryd.underlying5, rfl⟩, by kernel_rfl, .array Tryd.underlying182 Ty.zero182 rfl Ty.size5 rfl⟩
theorem ti186 : TI.ok Tryd.prog 186 ⟨.arr 32 5 1 false [(.int .u8 0), (.int .u8 0), (.int .u8 0), (.int .u8 0), (.int .u8 0), (.int .u8 0), (.int .u8 0), (.int .u8 0), (.int .u8 0), (.int .u8 0), (.int .u8 0), (.int .u8 0), (.int .u8 0), (.int .u8 0), (.int .u8 0), (.int .u8 0), (.int .u8 0), (.int .u8 0), (.int .u8 0), (.int .u8 0), (.int .u8 0), (.int .u8 0), (.int .u8 0), (.int .u8 0), (.int .u8 0), (.int .u8 0), (.int .u8 0), (.int .u8 0), (.int .u8 0), (.int .u8 0), (.int .u8 0), (.int .u8 0)], 32⟩ := ⟨⟨⟨Tryd.underlying186⟩, ⟨Ty.size186⟩⟩, ⟨Ty.size5⟩, ⟨_, Tryd.underlying5, rfl⟩, by kernel_rfl, .array Tryd.underlying186 Ty.zero186 rfl Ty.size5 rfl⟩
theorem ti187 : TI.ok Tryd.prog 187 ⟨.arr 64 5 1 false [(.int .u8 0), (.int .u8 0), (.int .u8 0), (.int .u8 0), (.int .u8 0), (.int .u8 0), (.int .u8 0), (.int .u8 0), (.int .u8 0), (.int .u8 0), (.int .u8 0), (.int .u8 0), (.int .u8 0), (.int .u8 0), (.int .u8 0), (.int .u8 0), (.int .u8 0), (.int .u8 0), (.int .u8 0), (.int .u8 0), (.int .u8 0), (.int .u8 0), (.int .u8 0), (.int .u8 0), (.int .u8 0), (.int .u8 0), (.int .u8 0), (.int .u8 0), (.int .u8 0), (.int .u8 0), (.int .u8 0), (.int .u8 0), (.int .u8 0), (.int .u8 0), (.int .u8 0), (.int .u8 0), (.int .u8 0), (.int .u8 0), (.int .u8 0), (.int .u8 0), (.int .u8 0), (.int .u8 0), (.int .u8 0), (.int .u8 0), (.int .u8 0), (.int .u8 0), (.int .u8 0), (.int .u8 0), (.int .u8 0), (.int .u8 0), (.int .u8 0), (.int .u8 0), (.int .u8 0), (.int .u8 0), (.int .u8 0), (.int .u8 0), (.int .u8 0), (.int .u8 0), (.int .u8 0), (.int .u8 0), (.int .u8 0), (.int .u8 0), (.int .u8 0), (.int .u8 0)], 64⟩ := ⟨⟨⟨Tryd.underlying187⟩, ⟨Ty.size187⟩⟩, ⟨Ty.size5⟩, ⟨_, Tryd.underlying5, rfl⟩, by kernel_rfl, .array Tryd.underlying187 Ty.zero187 rfl Ty.size5 rfl⟩
def tt : TT := (.node (.node (.node (.node (.node (.node .leaf 1 ⟨.fn, 1⟩ .leaf) 2 ⟨.int .i64, 1⟩ (.node .leaf 3 ⟨.int .i64, 1⟩ .leaf)) 4 ⟨.bool, 1⟩ (.node (.node .leaf 5 ⟨.int .u8, 1⟩ .leaf) 9 ⟨.str, 1⟩ (.node .leaf 20 ⟨.ifc, 1⟩ .leaf))) 21 ⟨.int .i32, 1⟩ (.node (.node (.node .leaf 22 ⟨.slc 5 1 true, 1⟩ .leaf) 24 ⟨.slc 3 1 false, 1⟩ (.node .leaf 25 ⟨.slc 46 8 false, 1⟩ .leaf)) 27 ⟨.struct [(0, 1, false), (1, 1, false), (2, 1, false), (3, 1, false), (4, 1, false), (5, 1, false), (6, 1, false), (7, 1, false), (8, 1, false), (9, 1, false)] [(.int .i64 0), .str [], .str [], .str [], (.int .i64 0), (.int .i64 0), (.int .i64 0), .nils, .nils, .str []], 10⟩ (.node (.node .leaf 30 ⟨.slc 43 2 false, 1⟩ .leaf) 33 ⟨.int .u16, 1⟩ (.node .leaf 34 ⟨.int .u16, 1⟩ .leaf)))) 43 ⟨.struct [(0, 1, false), (1, 1, false)] [.str [], .nils], 2⟩ (.node (.node (.node (.node .leaf 46 ⟨.struct [(0, 1, false), (1, 1, false), (2, 1, false), (3, 1, false), (4, 1, false), (5, 1, false), (6, 1, false), (7, 1, false)] [(.int .i64 0), .str [], .str [], (.int .i64 0), (.int .i64 0), (.bool false), .str [], (.int .i64 0)], 8⟩ .leaf) 48 ⟨.slc 33 1 false, 1⟩ (.node .leaf 51 ⟨.slc 5 1 true, 1⟩ .leaf)) 61 ⟨.ptr, 1⟩ (.node (.node .leaf 63 ⟨.struct [(0, 1, false), (1, 1, false)] [.nils, (.int .i64 0)], 2⟩ .leaf) 65 ⟨.ifc, 1⟩ (.node .leaf 67 ⟨.struct [(0, 2, true), (2, 1, false)] [.nils, (.int .i64 0), .nilifc], 3⟩ .leaf))) 71 ⟨.fn, 1⟩ (.node (.node (.node .leaf 79 ⟨.fn, 1⟩ .leaf) 82 ⟨.ptr, 1⟩ (.node .leaf 84 ⟨.struct [(0, 10, true), (10, 1, false), (11, 1, false)] [(.int .i64 0), .str [], .str [], .str [], (.int .i64 0), (.int .i64 0), (.int .i64 0), .nils, .nils, .str [], (.int .i64 0), .nilp], 12⟩ .leaf)) 87 ⟨.struct [(0, 1, false), (1, 1, false), (2, 1, false)] [.nils, (.int .i64 0), (.bool false)], 3⟩ (.node (.node .leaf 90 ⟨.fn, 1⟩ .leaf) 91 ⟨.fn, 1⟩ (.node .leaf 96 ⟨.fn, 1⟩ .leaf))))) 98 ⟨.struct [(0, 1, false), (1, 1, false)] [(.int .u8 0), .nilfn], 2⟩ (.node (.node (.node (.node (.node .leaf 99 ⟨.arr 6 98 2 true [(.int .u8 0), .nilfn, (.int .u8 0), .nilfn, (.int .u8 0), .nilfn, (.int .u8 0), .nilfn, (.int .u8 0), .nilfn, (.int .u8 0), .nilfn], 12⟩ .leaf) 101 ⟨.ptr, 1⟩ (.node .leaf 102 ⟨.ptr, 1⟩ .leaf)) 104 ⟨.ptr, 1⟩ (.node (.node .leaf 106 ⟨.struct [(0, 1, false), (1, 1, false), (2, 1, false)] [.nils, (.int .i64 0), (.bool false)], 3⟩ .leaf) 109 ⟨.slc 9 1 false, 1⟩ (.node .leaf 113 ⟨.arr 3 9 1 false [.str [], .str [], .str []], 3⟩ .leaf))) 117 ⟨.ptr, 1⟩ (.node (.node (.node .leaf 118 ⟨.fn, 1⟩ .leaf) 124 ⟨.fn, 1⟩ (.node .leaf 127 ⟨.fn, 1⟩ .leaf)) 128 ⟨.slc 20 1 false, 1⟩ (.node (.node .leaf 134 ⟨.fn, 1⟩ .leaf) 136 ⟨.int .u64, 1⟩ (.node .leaf 140 ⟨.struct [(0, 1, false)] [(.int .u16 0)], 1⟩ .leaf)))) 141 ⟨.int .i64, 1⟩ (.node (.node (.node (.node .leaf 144 ⟨.ptr, 1⟩ .leaf) 150 ⟨.ptr, 1⟩ (.node .leaf 152 ⟨.struct [(0, 1, false), (1, 1, false)] [.nilp, .nils], 2⟩ .leaf)) 155 ⟨.int .u64, 1⟩ (.node (.node .leaf 160 ⟨.struct [(0, 1, false), (1, 1, false), (2, 1, false)] [.str [], .str [], .nilifc], 3⟩ .leaf) 163 ⟨.int .u32, 1⟩ (.node .leaf 168 ⟨.ptr, 1⟩ .leaf))) 171 ⟨.ptr, 1⟩ (.node (.node (.node .leaf 173 ⟨.struct [(0, 1, false)] [.str []], 1⟩ .leaf) 174 ⟨.arr 24 5 1 false [(.int .u8 0), (.int .u8 0), (.int .u8 0), (.int .u8 0), (.int .u8 0), (.int .u8 0), (.int .u8 0), (.int .u8 0), (.int .u8 0), (.int .u8 0), (.int .u8 0), (.int .u8 0), (.int .u8 0), (.int .u8 0), (.int .u8 0), (.int .u8 0), (.int .u8 0), (.int .u8 0), (.int .u8 0), (.int .u8 0), (.int .u8 0), (.int .u8 0), (.int .u8 0), (.int .u8 0)], 24⟩ (.node .leaf 181 ⟨.arr 20 155 1 false [(.int .u64 0), (.int .u64 0), (.int .u64 0), (.int .u64 0), (.int .u64 0), (.int .u64 0), (.int .u64 0), (.int .u64 0), (.int .u64 0), (.int .u64 0), (.int .u64 0), (.int .u64 0), (.int .u64 0), (.int .u64 0), (.int .u64 0), (.int .u64 0), (.int .u64 0), (.int .u64 0), (.int .u64 0), (.int .u64 0)], 20⟩ .leaf)) 182 ⟨.arr 65 5 1 false [(.int .u8 0), (.int .u8 0), (.int .u8 0), (.int .u8 0), (.int .u8 0), (.int .u8 0), (.int .u8 0), (.int .u8 0), (.int .u8 0), (.int .u8 0), (.int .u8 0), (.int .u8 0), (.int .u8 0), (.int .u8 0), (.int .u8 0), (.int .u8 0), (.int .u8 0), (.int .u8 0), (.int .u8 0), (.int .u8 0), (.int .u8 0), (.int .u8 0), (.int .u8 0), (.int .u8 0), (.int .u8 0), (.int .u8 0), (.int .u8 0), (.int .u8 0), (.int .u8 0), (.int .u8 0), (.int .u8 0), (.int .u8 0), (.int .u8 0), (.int .u8 0), (.int .u8 0), (.int .u8 0), (.int .u8 0), (.int .u8 0), (.int .u8 0), (.int .u8 0), (.int .u8 0), (.int .u8 0), (.int .u8 0), (.int .u8 0), (.int .u8 0), (.int .u8 0), (.int .u8 0), (.int .u8 0), (.int .u8 0), (.int .u8 0), (.int .u8 0), (.int .u8 0), (.int .u8 0), (.int .u8 0), (.int .u8 0), (.int .u8 0), (.int .u8 0), (.int .u8 0), (.int .u8 0), (.int .u8 0), (.int .u8 0), (.int .u8 0), (.int .u8 0), (.int .u8 0), (.int .u8 0)], 65⟩ (.node (.node .leaf 186 ⟨.arr 32 5 1 false [(.int .u8 0), (.int .u8 0), (.int .u8 0), (.int .u8 0), (.int .u8 0), (.int .u8 0), (.int .u8 0), (.int .u8 0), (.int .u8 0), (.int .u8 0), (.int .u8 0), (.int .u8 0), (.int .u8 0), (.int .u8 0), (.int .u8 0), (.int .u8 0), (.int .u8 0), (.int .u8 0), (.int .u8 0), (.int .u8 0), (.int .u8 0), (.int .u8 0), (.int .u8 0), (.int .u8 0), (.int .u8 0), (.int .u8 0), (.int .u8 0), (.int .u8 0), (.int .u8 0), (.int .u8 0), (.int .u8 0), (.int .u8 0)], 32⟩ .leaf) 187 ⟨.arr 64 5 1 false [(.int .u8 0), (.int .u8 0), (.int .u8 0), (.int .u8 0), (.int .u8 0), (.int .u8 0), (.int .u8 0), (.int .u8 0), (.int .u8 0), (.int .u8 0), (.int .u8 0), (.int .u8 0), (.int .u8 0), (.int .u8 0), (.int .u8 0), (.int .u8 0), (.int .u8 0), (.int .u8 0), (.int .u8 0), (.int .u8 0), (.int .u8 0), (.int .u8 0), (.int .u8 0), (.int .u8 0), (.int .u8 0), (.int .u8 0), (.int .u8 0), (.int .u8 0), (.int .u8 0), (.int .u8 0), (.int .u8 0), (.int .u8 0), (.int .u8 0), (.int .u8 0), (.int .u8 0), (.int .u8 0), (.int .u8 0), (.int .u8 0), (.int .u8 0), (.int .u8 0), (.int .u8 0), (.int .u8 0), (.int .u8 0), (.int .u8 0), (.int .u8 0), (.int .u8 0), (.int .u8 0), (.int .u8 0), (.int .u8 0), (.int .u8 0), (.int .u8 0), (.int .u8 0), (.int .u8 0), (.int .u8 0), (.int .u8 0), (.int .u8 0), (.int .u8 0), (.int .u8 0), (.int .u8 0), (.int .u8 0), (.int .u8 0), (.int .u8 0), (.int .u8 0), (.int .u8 0)], 64⟩ .leaf)))))
theorem tok : tt.ok Tryd.prog := ⟨⟨⟨⟨⟨⟨trivial, ti1, trivial⟩, ti2, ⟨trivial, ti3, trivial⟩⟩, ti4, ⟨⟨trivial, ti5, trivial⟩, ti9, ⟨trivial, ti20, trivial⟩⟩⟩, ti21, ⟨⟨⟨trivial, ti22, trivial⟩, ti24, ⟨trivial, ti25, trivial⟩⟩, ti27, ⟨⟨trivial, ti30, trivial⟩, ti33, ⟨trivial, ti34, trivial⟩⟩⟩⟩, ti43, ⟨⟨⟨⟨trivial, ti46, trivial⟩, ti48, ⟨trivial, ti51, trivial⟩⟩, ti61, ⟨⟨trivial, ti63, trivial⟩, ti65, ⟨trivial, ti67, trivial⟩⟩⟩, ti71, ⟨⟨⟨trivial, ti79, trivial⟩, ti82, ⟨trivial, ti84, trivial⟩⟩, ti87, ⟨⟨trivial, ti90, trivial⟩, ti91, ⟨trivial, ti96, trivial⟩⟩⟩⟩⟩, ti98, ⟨⟨⟨⟨⟨trivial, ti99, trivial⟩, ti101, ⟨trivial, ti102, trivial⟩⟩, ti104, ⟨⟨trivial, ti106, trivial⟩, ti109, ⟨trivial, ti113, trivial⟩⟩⟩, ti117, ⟨⟨⟨trivial, ti118, trivial⟩, ti124, ⟨trivial, ti127, trivial⟩⟩, ti128, ⟨⟨trivial, ti134, trivial⟩, ti136, ⟨trivial, ti140, trivial⟩⟩⟩⟩, ti141, ⟨⟨⟨⟨trivial, ti144, trivial⟩, ti150, ⟨trivial, ti152, trivial⟩⟩, ti155, ⟨⟨trivial, ti160, trivial⟩, ti163, ⟨trivial, ti168, trivial⟩⟩⟩, ti171, ⟨⟨⟨trivial, ti173, trivial⟩, ti174, ⟨trivial, ti181, trivial⟩⟩, ti182, ⟨⟨trivial, ti186, trivial⟩, ti187, trivial⟩⟩⟩⟩⟩
end Go.Proofs.YtkbmkhhcppfcnaaDoor.Ty
end
section
set_option linter.unusedVariables false
set_option linter.unusedSimpArgs false
set_option maxRecDepth 100000
set_option maxHeartbeats 1000000
namespace Go.Proofs.YtkbmkhhcppfcnaaDoor
open Go.Al Go.RowKit
theorem flag1_any (w0 : Base) (b : Bool) : CallP Tryd.prog w0 104 [.bool b] (.int .i64 (if b = true then 1 else 0)) := by
  refine CallP.x Ty.tok Ty.mixed Tryd.func104 rfl Tryd.ntmps104 rfl (by simp) (by decide +kernel) fun σ => ?_
  (conv => whnf)
  (refine SIf.x Ty.mixed (fun hc => ?_) (fun hc => ?_) <;> (conv => whnf))
  rotate_left; rotate_left
  all_goals exact .p (.refl _) (by simp [hc])
theorem deaths1_any (w0 : Base) : CallP Tryd.prog w0 108 [] (.slc 1 [.str [], .str [110, 97, 99, 107], .str [116, 105, 109, 101]] .full) := by
  refine CallP.x Ty.tok Ty.mixed Tryd.func108 rfl Tryd.ntmps108 rfl (by simp) (by decide +kernel) fun σ => ?_
  (conv => whnf)
  skip
  exact .p (.refl _) rfl
theorem bytesEq_any (w0 : Base) (a b : List UInt8) (ta tb : Tok) : CallP Tryd.prog w0 109 [.slc 1 (aBytes a) ta, .slc 1 (aBytes b) tb] (.bool (decide (a = b))) := by
  refine CallP.x Ty.tok Ty.mixed Tryd.func109 rfl Tryd.ntmps109 rfl (by simp) (by decide +kernel) fun σ => ?_
  (conv => whnf); refine ⟨_, toBytes_aBytes _, ?_⟩; (conv => whnf); refine ⟨_, toBytes_aBytes _, ?_⟩; (conv => whnf); exact .p (.refl _) rfl
theorem same1_any (w0 : Base) (x y : Row) : CallP Tryd.prog w0 68 [eRow x, eRow y] (.bool (decide (x = y))) := by
  refine CallP.x Ty.tok Ty.mixed Tryd.func68 rfl Tryd.ntmps68 rfl (by simp) (by decide +kernel) fun σ => ?_
  (conv => whnf); refine SBox.f ?_; (conv => whnf); refine SBox.f ?_; (conv => whnf)
  (refine SCond.mk (fun hc => ?_) (fun hc => ?_) <;> (conv => whnf))
  refine SCond.y (by assumption) ?_; (conv => whnf); refine SCond.y (by assumption) ?_; (conv => whnf); refine SCond.y (by assumption) ?_; (conv => whnf); refine SCond.y (by assumption) ?_; (conv => whnf); refine SCall.p (by exact bytesEq_any w0 _ _ _ _) ?_; (conv => whnf); refine SPick.y (by assumption) ?_; (conv => whnf); rotate_left; refine SCond.n (by assumption) ?_; (conv => whnf)
  refine SCond.n (by assumption) ?_; (conv => whnf); refine SCond.n (by assumption) ?_; (conv => whnf); refine SCond.n (by assumption) ?_; (conv => whnf); refine SPick.n (by assumption) ?_; (conv => whnf); rotate_left
  · refine .p (.refl _) ?_
    have h1 : x.key = y.key := by simpa using hc
    have : (x.val = y.val) ↔ x = y := ⟨fun h => row_ext h1 h, fun h => by rw [h]⟩
    simp only [this]
  · refine .p (.refl _) ?_
    have : ¬ x = y := fun e => by subst e; simp at *
    simp [this]
theorem death1_any (w0 : Base) (m : Msg) : CallP Tryd.prog w0 105 [eMsg m] (.int .i64 (deathN m)) := by
  refine CallP.x Ty.tok Ty.mixed Tryd.func105 rfl Tryd.ntmps105 rfl (by simp) (by decide +kernel) fun σ => ?_
  (conv => whnf); refine SBox.f ?_; (conv => whnf)
  (refine SIf.x Ty.mixed (fun hc => ?_) (fun hc => ?_) <;> (conv => whnf))
  rotate_left; refine SReg.t 0 [] (by decide +kernel) ?_; (conv => whnf); refine SCall.p (by exact deaths1_any w0) ?_; (conv => whnf)
  refine ⟨_, ⟨by first | omega | (simp only [List.length_cons, List.length_append, List.length_nil, List.length_map, length_aBytes, List.length_replicate, List.length_range]; omega) | fail, by rfl⟩, ?_⟩
  (conv => whnf)
  (refine SIf.x Ty.mixed (fun hc => ?_) (fun hc => ?_) <;> (conv => whnf))
  rotate_left; rotate_left
  all_goals refine .p (.refl _) ?_
  all_goals simp_all [deathN]
end Go.Proofs.YtkbmkhhcppfcnaaDoor
end
section
set_option linter.unusedVariables false
set_option linter.unusedSimpArgs false
set_option maxRecDepth 100000
set_option maxHeartbeats 1000000
namespace Go.Proofs.YtkbmkhhcppfcnaaDoor
open Go.Al Go.RowKit
inductive Part where
  | s (l : List UInt8)
  | n (k : Int)
def Part.v : Part → AV
  | .s l => .ifc 9 (.str l)
  | .n k => .ifc 3 (.int .i64 k)
def Part.b : Part → List UInt8
  | .s l => txt l
  | .n k => num k
def formB (ps : List Part) : List UInt8 := ps.flatMap Part.b
theorem formB_take {ps : List Part} {i : Nat} {p : Part} (h : ps[i]? = some p) : formB (ps.take (i + 1)) = formB (ps.take i) ++ p.b := by
  obtain ⟨hi, rfl⟩ := List.getElem?_eq_some_iff.1 h
  rw [formB, List.take_succ_eq_append_getElem hi, List.flatMap_append]; simp [formB]
theorem formB_le (ps : List Part) (i : Nat) : (formB (ps.take i)).length ≤ (formB ps).length := by
  have h : formB ps = formB (ps.take i) ++ formB (ps.drop i) := by rw [formB, formB, formB, ← List.flatMap_append, List.take_append_drop]
  have h := congrArg List.length h
  rw [List.length_append] at h
  omega
theorem form_any (w0 : Base) (ps : List Part) (tk : Tok) (h1 : ∀ l, Part.s l ∈ ps → l.length ≤ 100000) (h2 : (formB ps).length ≤ 10000000) (h3 : ps.length ≤ 1000) : CallP Tryd.prog w0 103 [.slc 1 (ps.map Part.v) tk] (.slc 1 (aBytes (formB ps)) .no) := by
  refine CallP.x Ty.tok Ty.mixed Tryd.func103 rfl Tryd.ntmps103 rfl (by simp) (by decide +kernel) fun σ => ?_
  (conv => whnf)
  skip
  refine SLoop.by Ty.mixed (fun (a : Nat × Tok) => ps.length - a.1) (fun (i, tq) => [(3, .slc 1 (aBytes (formB (ps.take i))) tq), (8, .slc 1 (ps.map Part.v) tk), (9, .int .i64 ps.length), (10, .int .i64 i)]) (fun _ => []) (fun (i, tq) s => i ≤ ps.length ∧ Moves σ .full s tq) (0, .full) ⟨?_, .nil, Nat.zero_le _, .full _⟩ ?_
  · show xWeak [(3, .slc 1 (aBytes (formB (ps.take 0))) .full), (8, .slc 1 (ps.map Part.v) tk), (9, .int .i64 ps.length), (10, .int .i64 (0 : Nat))] _
    rw [List.take_zero, List.length_map]
    repeat (first | exact trivial | refine ⟨by first | trivial | exact Weak.refl _ | exact Weak.tok _ _ _ | exact Weak.of_eq (congrArg (AV.int _) (by omega)) | exact Weak.of_eq (congrArg AV.bool (by fail)) | exact Weak.nils _ _ (.inr rfl), ?_⟩)
  rintro ⟨i, tq⟩ s ⟨hi, hm⟩; (conv => whnf)
  skip
  (refine SIf.x Ty.mixed (fun hc => ?_) (fun hc => ?_) <;> (conv => whnf))
  · have hlt : i < ps.length := by simp at hc; omega
    have ga : ps[i]? = some ps[i] := by simp [hlt]
    have hd := formB_take ga
    have hle := formB_le ps (i + 1)
    have hmem := List.getElem_mem hlt
    generalize ps[i] = p at ga hd hmem
    rw [hd] at hle
    have hgv : (ps.map Part.v)[i]? = some p.v := by rw [List.getElem?_map, ga]; rfl
    cases p with
    | s l =>
      have hl := h1 l hmem
      have he : aBytes (formB (ps.take (i + 1))) = aBytes (formB (ps.take i)) ++ aBytes (txt l) := by rw [hd]; exact List.map_append ..
      simp only [Part.b, List.length_append] at hle
      refine ⟨_, ⟨by first | omega | (simp only [List.length_cons, List.length_append, List.length_nil, List.length_map, length_aBytes, List.length_replicate, List.length_range]; omega) | fail, by exact hgv⟩, ?_⟩
      (conv => whnf); refine SIf.y Ty.mixed (by exact rfl) ?_; (conv => whnf); refine SCall.p (by exact text_p w0 _ (by omega)) ?_; (conv => whnf)
      refine SApp.c rfl rfl (by exact hm) (by simp only [length_aBytes, List.length_append, List.length_cons, List.length_nil, List.length_map, List.length_range]; omega) fun tk1 σ1 hm => ?_
      (conv => whnf); refine ⟨_, IntWalk.i64_in _ (by omega), ?_⟩; (conv => whnf)
      refine ⟨(i + 1, tk1), by omega, ?_⟩
      refine ⟨?_, .nil, hlt, hm⟩
      show xWeak [(3, .slc 1 (aBytes (formB (ps.take (i + 1)))) tk1), _, _, _] _
      rw [he]
      repeat (first | exact trivial | refine ⟨by first | trivial | exact Weak.refl _ | exact Weak.tok _ _ _ | exact Weak.of_eq (congrArg (AV.int _) (by omega)) | exact Weak.of_eq (congrArg AV.bool (by fail)) | exact Weak.nils _ _ (.inr rfl), ?_⟩)
    | n k =>
      have he : aBytes (formB (ps.take (i + 1))) = aBytes (formB (ps.take i)) ++ aBytes (num k) := by rw [hd]; exact List.map_append ..
      simp only [Part.b, List.length_append] at hle
      refine ⟨_, ⟨by first | omega | (simp only [List.length_cons, List.length_append, List.length_nil, List.length_map, length_aBytes, List.length_replicate, List.length_range]; omega) | fail, by exact hgv⟩, ?_⟩
      (conv => whnf); refine SIf.n Ty.mixed (by exact rfl) ?_; (conv => whnf); refine SIf.y Ty.mixed (by exact rfl) ?_; (conv => whnf); refine SCall.p (by exact num_p w0 _) ?_; (conv => whnf)
      refine SApp.c rfl rfl (by exact hm) (by simp only [length_aBytes, List.length_append, List.length_cons, List.length_nil, List.length_map, List.length_range]; omega) fun tk1 σ1 hm => ?_
      (conv => whnf); refine ⟨_, IntWalk.i64_in _ (by omega), ?_⟩; (conv => whnf)
      refine ⟨(i + 1, tk1), by omega, ?_⟩
      refine ⟨?_, .nil, hlt, hm⟩
      show xWeak [(3, .slc 1 (aBytes (formB (ps.take (i + 1)))) tk1), _, _, _] _
      rw [he]
      repeat (first | exact trivial | refine ⟨by first | trivial | exact Weak.refl _ | exact Weak.tok _ _ _ | exact Weak.of_eq (congrArg (AV.int _) (by omega)) | exact Weak.of_eq (congrArg AV.bool (by fail)) | exact Weak.nils _ _ (.inr rfl), ?_⟩)
  · have hge : i = ps.length := by simp at hc; omega
    subst hge
    rw [List.take_length] at *
    skip
    exact .v hm.le (.tok _ _ _)
end Go.Proofs.YtkbmkhhcppfcnaaDoor
end
section
set_option linter.unusedVariables false
set_option linter.unusedSimpArgs false
set_option maxRecDepth 100000
set_option maxHeartbeats 1000000
namespace Go.Proofs.YtkbmkhhcppfcnaaDoor
open Go.Al Go.RowKit
theorem lay1_on (w0 : Base) (hL : Laid w0) (x : Sub) (t : UInt8) (seq : Int) (ps : List Part) (tk : Tok) (bo l : Nat) (σ : St) (h1 : ∀ l, Part.s l ∈ ps → l.length ≤ 100000) (h2 : (formB ps).length ≤ 10000000) (h3 : ps.length ≤ 1000) (hb : σ.box bo = some [.bool true]) {R K : AV → St → Prop}
    (hr : RoundW Tryd.prog w0 l [eRow ⟨rkey 1 t x.id seq, formB ps⟩] σ R) (hR : ∀ r s, R r s → ∃ b, r = .bool b ∧ s.box bo = some [.bool true] ∧ K (.tup []) (s.setBox bo [.bool b])) :
    CallW Tryd.prog w0 102 [.int .u8 t.toNat, .int .i64 seq, .slc 1 (ps.map Part.v) tk, .ptr bo 0, .vp (.fn (.yield l) [] []), .vp (eSub x)] σ K := by
  refine CallW.x (B := [(bo, [.bool true])]) Ty.tok Ty.mixed Tryd.func102 rfl Tryd.ntmps102 rfl (by simp) (by decide +kernel) ⟨by simpa using hb, by simp⟩ ?_
  (conv => whnf); refine SReg.d [0, 1, 3, 4, 6, 8, 2, 5, 7, 9, 10, 11, 12, 13] [1, 0, 1, 0, 0, 1, 0, 0, 0, 0, 0, 2, 0, 2] (by decide +kernel) ?_; (conv => whnf); (conv => whnf); refine SLoad.on 0 rfl ?_; (conv => whnf); refine SCond.y (by exact rfl) ?_; (conv => whnf); refine SCond.y (by exact rfl) ?_; (conv => whnf); refine SCond.y (by exact rfl) ?_; (conv => whnf); refine SCond.y (by exact rfl) ?_; (conv => whnf); refine SCond.y (by exact rfl) ?_; (conv => whnf)
  refine SCond.y (by exact rfl) ?_; (conv => whnf); refine SCond.y (by exact rfl) ?_; (conv => whnf); refine SCall.p (by exact keyS_any w0 hL 1 (by omega) t _ _) ?_; (conv => whnf); refine SCond.y (by exact rfl) ?_; (conv => whnf); refine SCall.p (by exact form_any w0 ps _ h1 h2 h3) ?_; (conv => whnf); refine SCond.y (by exact rfl) ?_; (conv => whnf); refine SCond.y (by exact rfl) ?_
  (conv => whnf)
  refine SYield.w hr fun r s hrs hB => ?_
  obtain ⟨b, rfl, g1, g2⟩ := hR r s hrs
  refine ⟨[(bo, [.bool true])], ⟨by simpa using g1, by simp⟩, ?_⟩
  (conv => whnf); refine SPick.y (by exact rfl) ?_; (conv => whnf); refine SStore.on 0 rfl ?_; (conv => whnf); refine .w ?_; exact g2
theorem lay1_off (w0 : Base) (x : Sub) (t : UInt8) (seq : Int) (ps : List Part) (tk : Tok) (bo l : Nat) (σ : St) (hb : σ.box bo = some [.bool false]) {K : AV → St → Prop} (hK : K (.tup []) σ) :
    CallW Tryd.prog w0 102 [.int .u8 t.toNat, .int .i64 seq, .slc 1 (ps.map Part.v) tk, .ptr bo 0, .vp (.fn (.yield l) [] []), .vp (eSub x)] σ K := by
  refine CallW.x (B := [(bo, [.bool false])]) Ty.tok Ty.mixed Tryd.func102 rfl Tryd.ntmps102 rfl (by simp) (by decide +kernel) ⟨by simpa using hb, by simp⟩ ?_
  (conv => whnf); refine SReg.d [0, 1, 3, 4, 6, 8, 2, 5, 7, 9, 10, 11, 12, 13] [1, 0, 1, 0, 0, 1, 0, 0, 0, 0, 0, 2, 0, 2] (by decide +kernel) ?_; (conv => whnf); (conv => whnf); refine SLoad.on 0 rfl ?_; (conv => whnf); refine SCond.n (by exact rfl) ?_; (conv => whnf); refine SCond.n (by exact rfl) ?_; (conv => whnf); refine SCond.n (by exact rfl) ?_; (conv => whnf); refine SCond.n (by exact rfl) ?_; (conv => whnf); refine SCond.n (by exact rfl) ?_; (conv => whnf)
  refine SCond.n (by exact rfl) ?_; (conv => whnf); refine SCond.n (by exact rfl) ?_; (conv => whnf); refine SCond.n (by exact rfl) ?_; (conv => whnf); refine SCond.n (by exact rfl) ?_; (conv => whnf); refine SCond.n (by exact rfl) ?_; (conv => whnf); refine SPick.n (by exact rfl) ?_; (conv => whnf); refine SStore.on 0 rfl ?_; (conv => whnf); refine .w ?_
  rw [setBox_self hb]
  exact hK
end Go.Proofs.YtkbmkhhcppfcnaaDoor
end
section
set_option linter.unusedVariables false
set_option linter.unusedSimpArgs false
set_option maxRecDepth 100000
set_option maxHeartbeats 400000
namespace Go.Proofs.YtkbmkhhcppfcnaaDoor
open Go.Al Go.RowKit
end Go.Proofs.YtkbmkhhcppfcnaaDoor
end
section
set_option linter.unusedVariables false
set_option linter.unusedSimpArgs false
set_option maxRecDepth 100000
set_option maxHeartbeats 1000000
namespace Go.Proofs.YtkbmkhhcppfcnaaDoor
open Go.Al Go.RowKit
def preR (x : Sub) : List Row := if x.acks = [] then [] else [⟨rkey 3 97 x.id 0, acksB x⟩]
theorem map_take_snoc {α β : Type} (f : α → β) {l : List α} {i : Nat} {a : α} (h : l[i]? = some a) : (l.take (i + 1)).map f = (l.take i).map f ++ [f a] := by rw [take_snoc h, List.map_append]; rfl
end Go.Proofs.YtkbmkhhcppfcnaaDoor
end
section
set_option linter.unusedVariables false
set_option linter.unusedSimpArgs false
set_option maxRecDepth 100000
set_option maxHeartbeats 1000000
namespace Go.Proofs.YtkbmkhhcppfcnaaDoor
open Go.Al Go.RowKit
structure RunAt (σ : St) (F FO : List Nat) (I : Nat → St → Prop) (D : St → Prop) (bo : Nat) (acc : List Row) (s : St) : Prop where
  k : Kp F FO σ s
  b : ∃ b, s.box bo = some [.bool b] ∧ (b = true ∧ I acc.length s ∨ b = false ∧ D s)
section
variable {σ : St} {F FO : List Nat} {I : Nat → St → Prop} {D : St → Prop} {bo : Nat} {acc : List Row} {s : St}
theorem RunAt.fresh (hIF : ∀ k s, I k s → (∀ i ∈ F, s.box i ≠ none) ∧ ∀ i ∈ FO, s.obj i ≠ none) (hDF : ∀ s, D s → (∀ i ∈ F, s.box i ≠ none) ∧ ∀ i ∈ FO, s.obj i ≠ none) (h : RunAt σ F FO I D bo acc s) {c : Nat} (hc : s.box c = none) : σ.box c = none ∧ c ≠ bo := by
  obtain ⟨b, hb, hq⟩ := h.b
  refine ⟨?_, by rintro rfl; rw [hb] at hc; cases hc⟩
  cases e : σ.box c with
  | none => rfl
  | some cs =>
    by_cases hF : c ∈ F
    · rcases hq with ⟨_, hi⟩ | ⟨_, hd⟩
      · exact absurd hc ((hIF _ _ hi).1 c hF)
      · exact absurd hc ((hDF _ hd).1 c hF)
    · rw [h.k.box c cs hF e] at hc; cases hc
theorem kp_set {F FO : List Nat} {a b : St} (h : Kp F FO a b) {c : Nat} {cs : List AV} (hc : a.box c = none) : Kp F FO a (b.setBox c cs) := ⟨fun i ds hi e => by rw [setBox_ne (by rintro rfl; rw [hc] at e; cases e)]; exact h.box i ds hi e, h.obj⟩
theorem RunAt.new (hI : ∀ k, Free σ (I k)) (hD : Free σ D) (h : RunAt σ F FO I D bo acc s) {c : Nat} (cs : List AV) (hc : σ.box c = none ∧ c ≠ bo) : RunAt σ F FO I D bo acc (s.setBox c cs) := by
  obtain ⟨b, hb, hq⟩ := h.b
  refine ⟨kp_set h.k hc.1, b, by rw [setBox_ne (Ne.symm hc.2)]; exact hb, ?_⟩
  exact hq.imp (fun ⟨a, b⟩ => ⟨a, (hI _).box s c cs hc.1 b⟩) (fun ⟨a, b⟩ => ⟨a, hD.box s c cs hc.1 b⟩)
theorem pre_at {l acc : List Row} {r : Row} (h : acc ++ [r] <+: l) : (l.map fun r => [eRow r])[acc.length]? = some [eRow r] := by
  obtain ⟨t, rfl⟩ := h
  simp
theorem lay1_step (w0 : Base) (hL : Laid w0) (x : Sub) (l : Nat) (hI : ∀ k, Free σ (I k)) (hD : Free σ D) (hr : ∀ k xs s, ((enc1 x).map fun r => [eRow r])[k]? = some xs → I k s → RoundW Tryd.prog w0 l xs s (fun r s' => Kp F FO s s' ∧ (r = .bool true ∧ I (k + 1) s' ∨ r = .bool false ∧ D s')))
    (hbo : σ.box bo = none) (hF : bo ∉ F) (h : RunAt σ F FO I D bo acc s) (t : UInt8) (seq : Int) (ps : List Part) (tk : Tok) (h1 : ∀ l, Part.s l ∈ ps → l.length ≤ 100000) (h2 : (formB ps).length ≤ 10000000) (h3 : ps.length ≤ 1000) (hp : acc ++ [⟨rkey 1 t x.id seq, formB ps⟩] <+: enc1 x) :
    CallW Tryd.prog w0 102 [.int .u8 t.toNat, .int .i64 seq, .slc 1 (ps.map Part.v) tk, .ptr bo 0, .vp (.fn (.yield l) [] []), .vp (eSub x)] s (fun r s' => r = .tup [] ∧ RunAt σ F FO I D bo (acc ++ [⟨rkey 1 t x.id seq, formB ps⟩]) s') := by
  obtain ⟨b, hb, ⟨rfl, hi⟩ | ⟨rfl, hd⟩⟩ := h.b
  · refine lay1_on w0 hL x t seq ps tk bo l s h1 h2 h3 hb (hr _ _ _ (pre_at hp) hi) ?_
    rintro r s' ⟨hk, ⟨rfl, hi'⟩ | ⟨rfl, hd'⟩⟩
    · refine ⟨true, rfl, hk.box _ _ hF hb, rfl, kp_set (h.k.trans hk) hbo, true, setBox_same, .inl ⟨rfl, ?_⟩⟩
      rw [List.length_append]
      exact (hI _).box _ _ _ hbo hi'
    · exact ⟨false, rfl, hk.box _ _ hF hb, rfl, kp_set (h.k.trans hk) hbo, false, setBox_same, .inr ⟨rfl, hD.box _ _ _ hbo hd'⟩⟩
  · exact lay1_off w0 x t seq ps tk bo l s hb ⟨rfl, h.k, false, hb, .inr ⟨rfl, hd⟩⟩
end
theorem enc1_pa (x : Sub) (i : Nat) : (x.acks.take i).map (ack1 x.id) <+: enc1 x := ((List.take_prefix i x.acks).map _).trans ⟨note1 x ++ x.queue.map (q1 x.id) ++ [s1 x] ++ want1 x ++ x.queue.flatMap (x1 x.id), by simp [enc1, encB, encA]⟩
theorem enc1_pn (x : Sub) : encA x <+: enc1 x := ⟨x.queue.map (q1 x.id) ++ [s1 x] ++ want1 x ++ x.queue.flatMap (x1 x.id), by simp [enc1, encB]⟩
theorem enc1_pq (x : Sub) (i : Nat) : encA x ++ (x.queue.take i).map (q1 x.id) <+: enc1 x := ⟨(x.queue.drop i).map (q1 x.id) ++ [s1 x] ++ want1 x ++ x.queue.flatMap (x1 x.id), by
  have : x.queue.map (q1 x.id) = (x.queue.take i).map (q1 x.id) ++ (x.queue.drop i).map (q1 x.id) := by rw [← List.map_append, List.take_append_drop]
  simp only [enc1, encB, this, List.append_assoc]⟩
theorem enc1_ps (x : Sub) : encB x <+: enc1 x := ⟨want1 x ++ x.queue.flatMap (x1 x.id), by simp [enc1]⟩
theorem enc1_pw (x : Sub) : encB x ++ want1 x <+: enc1 x := ⟨x.queue.flatMap (x1 x.id), rfl⟩
theorem enc1_px (x : Sub) (i : Nat) : encB x ++ want1 x ++ (x.queue.take i).flatMap (x1 x.id) <+: enc1 x := ⟨(x.queue.drop i).flatMap (x1 x.id), by
  have : x.queue.flatMap (x1 x.id) = (x.queue.take i).flatMap (x1 x.id) ++ (x.queue.drop i).flatMap (x1 x.id) := by rw [← List.flatMap_append, List.take_append_drop]
  simp only [enc1, this, List.append_assoc]⟩
theorem num_le (n : Int) : (num n).length ≤ 10 := by have := num_len n; omega
theorem rows1_iter (w0 : Base) (hL : Laid w0) (x : Sub) (hx : Fits x) : IterW Tryd.prog w0 101 [] [.vp (eSub x)] ((enc1 x).map fun r => [eRow r]) := ⟨by
  intro l F FO I D σ hI hD hIF hDF hr h0
  obtain ⟨hs1, hs2, hs3, hs4⟩ := And.intro hx.name (And.intro hx.topic (And.intro hx.want hx.note))
  have hna := hx.nacks
  have hnq := hx.nqueue
  show CallW Tryd.prog w0 101 [.fn (.yield l) [] [], .vp (eSub x)] σ _
  refine CallW.x (B := []) Ty.tok Ty.mixed Tryd.func101 rfl Tryd.ntmps101 rfl (by simp) (by decide +kernel) (.nil σ) ?_; (conv => whnf); refine SBox.f ?_; (conv => whnf); intro bo hbo; (conv => whnf); refine SStore.on 0 rfl ?_; (conv => whnf)
  have hF : bo ∉ F := fun h => (hIF _ _ h0).1 bo h hbo
  have hrun : RunAt σ F FO I D bo [] ((σ.setBox bo [.bool false]).setBox bo [.bool true]) := by
    rw [setBox_setBox]
    exact ⟨kp_set (.refl _ _ _) hbo, true, setBox_same, .inl ⟨rfl, (hI 0).box _ _ _ hbo h0⟩⟩
  have step := fun acc s h t seq ps tk h1 h2 h3 hp => lay1_step (acc := acc) (s := s) w0 hL x l hI hD hr hbo hF h t seq ps tk h1 h2 h3 hp
  have hfr := fun acc s (h : RunAt σ F FO I D bo acc s) c (hc : s.box c = none) => h.fresh hIF hDF hc
  generalize ((σ.setBox bo [.bool false]).setBox bo [.bool true]) = s0 at hrun ⊢
  refine SLoop.by Ty.mixed (fun i : Nat => x.acks.length - i) (fun i => [(1, .vp (eSub x)), (4, .fn (.func 102) [] [.ptr bo 0, .vp (.fn (.yield l) [] []), .vp (eSub x)]), (13, eInts x.acks), (14, .int .i64 x.acks.length), (15, .int .i64 i)]) (fun _ => []) (fun i s => i ≤ x.acks.length ∧ RunAt σ F FO I D bo ((x.acks.take i).map (ack1 x.id)) s) 0 ⟨?_, .none _, Nat.zero_le _, hrun⟩ ?_
  · show xWeak [(1, .vp (eSub x)), (4, .fn (.func 102) [] [.ptr bo 0, .vp (.fn (.yield l) [] []), .vp (eSub x)]), (13, eInts x.acks), (14, .int .i64 x.acks.length), (15, .int .i64 (0 : Nat))] _
    rw [List.length_map]
    repeat (first | exact trivial | refine ⟨by first | trivial | exact Weak.refl _ | exact Weak.tok _ _ _ | exact Weak.of_eq (congrArg (AV.int _) (by omega)) | exact Weak.of_eq (congrArg AV.bool (by fail)) | exact Weak.nils _ _ (.inr rfl), ?_⟩)
  · rintro i s ⟨hi, hrun⟩
    (conv => whnf)
    skip
    (refine SIf.x Ty.mixed (fun hc => ?_) (fun hc => ?_) <;> (conv => whnf))
    · have hlt : i < x.acks.length := by simp at hc; omega
      have ga : x.acks[i]? = some x.acks[i] := by simp [hlt]
      have hd := map_take_snoc (ack1 x.id) ga
      have hp := enc1_pa x (i + 1)
      generalize x.acks[i] = n at ga hd
      rw [hd] at hp
      refine ⟨_, ⟨by first | omega | (simp only [List.length_cons, List.length_append, List.length_nil, List.length_map, length_aBytes, List.length_replicate, List.length_range]; omega) | fail, by first | assumption | exact get_map (by assumption) | exact get_bytes (by assumption) | fail⟩, ?_⟩
      (conv => whnf); refine SCall.w (CallW.weaken (step _ _ hrun 97 n [] .no (by simp) (by simp [formB]) (by simp) hp) (.cons (.refl _) (.cons (.refl _) (.cons (.nils 1 .no (.inl rfl)) (WeakL.refl _))))) rfl ?_; rintro r s' ⟨rfl, hrun'⟩ hB; refine ⟨_, .nil _, ?_⟩; clear hB; (conv => whnf); refine ⟨_, IntWalk.i64_in _ (by omega), ?_⟩; (conv => whnf)
      exact ⟨i + 1, by omega, by repeat (first | exact trivial | refine ⟨by first | trivial | exact Weak.refl _ | exact Weak.tok _ _ _ | exact Weak.of_eq (congrArg (AV.int _) (by omega)) | exact Weak.of_eq (congrArg AV.bool (by fail)) | exact Weak.nils _ _ (.inr rfl), ?_⟩), .none _, hlt, by rw [hd]; exact hrun'⟩
    · have hge : i = x.acks.length := by simp at hc; omega
      subst hge
      rw [List.take_length] at hrun
      clear hc hi; (conv => whnf)
      skip
      refine SIf.meet Ty.mixed (fun _ : Unit => [(1, .vp (eSub x)), (4, .fn (.func 102) [] [.ptr bo 0, .vp (.fn (.yield l) [] []), .vp (eSub x)])]) (fun _ => []) (fun _ s => RunAt σ F FO I D bo (encA x) s) ?_ ?_ ?_
      · intro hc
        have hne : x.note ≠ [] := by rintro e; simp [e] at hc
        have hp := enc1_pn x
        have he : encA x = x.acks.map (ack1 x.id) ++ [⟨rkey 1 110 x.id 0, formB [.s x.note]⟩] := by simp [encA, note1, hne, formB, Part.b]
        rw [he] at hp ⊢
        (conv => whnf); refine SCall.w (step _ _ hrun 110 0 [.s x.note] .full (by simp; omega) (by have := num_le x.note.length; simp [formB, Part.b, txt]; omega) (by simp) hp) rfl ?_; rintro r s' ⟨rfl, hrun'⟩ hB; refine ⟨_, .nil _, ?_⟩; clear hB; (conv => whnf)
        exact ⟨(), by repeat (first | exact trivial | refine ⟨by first | trivial | exact Weak.refl _ | exact Weak.tok _ _ _ | exact Weak.of_eq (congrArg (AV.int _) (by omega)) | exact Weak.of_eq (congrArg AV.bool (by fail)) | exact Weak.nils _ _ (.inr rfl), ?_⟩), .none _, hrun'⟩
      · intro hc
        have hne : x.note = [] := by simpa using hc
        have he : encA x = x.acks.map (ack1 x.id) := by simp [encA, note1, hne]
        rw [he]
        (conv => whnf)
        exact ⟨(), by repeat (first | exact trivial | refine ⟨by first | trivial | exact Weak.refl _ | exact Weak.tok _ _ _ | exact Weak.of_eq (congrArg (AV.int _) (by omega)) | exact Weak.of_eq (congrArg AV.bool (by fail)) | exact Weak.nils _ _ (.inr rfl), ?_⟩), .none _, hrun⟩
      clear hrun s; rintro _ s hrun; (conv => whnf)
      skip
      refine SLoop.by Ty.mixed (fun i : Nat => x.queue.length - i) (fun i => [(1, .vp (eSub x)), (4, .fn (.func 102) [] [.ptr bo 0, .vp (.fn (.yield l) [] []), .vp (eSub x)]), (33, eMsgs x.queue), (34, .int .i64 x.queue.length), (35, .int .i64 i)]) (fun _ => []) (fun i s => i ≤ x.queue.length ∧ RunAt σ F FO I D bo (encA x ++ (x.queue.take i).map (q1 x.id)) s) 0 ⟨?_, .none _, Nat.zero_le _, by rw [List.take_zero, List.map_nil, List.append_nil]; exact hrun⟩ ?_
      · show xWeak [(1, .vp (eSub x)), (4, .fn (.func 102) [] [.ptr bo 0, .vp (.fn (.yield l) [] []), .vp (eSub x)]), (33, eMsgs x.queue), (34, .int .i64 x.queue.length), (35, .int .i64 (0 : Nat))] _
        rw [List.length_map]
        repeat (first | exact trivial | refine ⟨by first | trivial | exact Weak.refl _ | exact Weak.tok _ _ _ | exact Weak.of_eq (congrArg (AV.int _) (by omega)) | exact Weak.of_eq (congrArg AV.bool (by fail)) | exact Weak.nils _ _ (.inr rfl), ?_⟩)
      · clear hrun s
        rintro i s ⟨hi, hrun⟩; (conv => whnf)
        skip
        (refine SIf.x Ty.mixed (fun hc => ?_) (fun hc => ?_) <;> (conv => whnf))
        · have hlt : i < x.queue.length := by simp at hc; omega
          have ga : x.queue[i]? = some x.queue[i] := by simp [hlt]
          have hd := map_take_snoc (q1 x.id) ga
          have hp := enc1_pq x (i + 1)
          have hml := hx.queue _ (List.getElem_mem hlt)
          generalize x.queue[i] = m at ga hd hml
          rw [hd, ← List.append_assoc] at hp
          have hgm : (x.queue.map eMsg)[i]? = some (eMsg m) := by rw [List.getElem?_map, ga]; rfl
          refine ⟨_, ⟨by first | omega | (simp only [List.length_cons, List.length_append, List.length_nil, List.length_map, length_aBytes, List.length_replicate, List.length_range]; omega) | fail, by exact hgm⟩, ?_⟩
          (conv => whnf); intro b8 hb8; (conv => whnf); refine SStore.on 0 rfl ?_; (conv => whnf); refine SReg.fz 8 hb8 rfl rfl ?_; (conv => whnf); refine SReg.d [0, 1, 2, 3, 4, 5, 6, 7, 8, 9, 10, 11, 12, 13, 14, 15, 16, 17, 18, 19, 20] [0, 0, 0, 0, 0, 0, 0, 0, 0, 0, 0, 0, 0, 0, 0, 0, 0, 0, 0, 0, 2] (by decide +kernel) ?_; (conv => whnf); (conv => whnf); refine SCall.p (by exact flag1_any w0 _) ?_; (conv => whnf)
          refine SCall.w (step _ _ hrun 113 m.seq [.s m.body, .s m.attr, .n m.tries, .n m.until_, .n (if m.dead = true then 1 else 0)] .full (by simp; omega) (by have := num_le m.body.length; have := num_le m.attr.length; have := num_le m.tries; have := num_le m.until_; have := num_le (if m.dead = true then 1 else 0); simp [formB, Part.b, txt]; omega) (by simp) (by simpa [formB, Part.b, q1, qB, deadN] using hp)) rfl ?_
          rintro r s' ⟨rfl, hrun'⟩ hB; refine ⟨_, .nil _, ?_⟩; clear hB; (conv => whnf); refine ⟨_, IntWalk.i64_in _ (by omega), ?_⟩; (conv => whnf)
          refine ⟨i + 1, by omega, by repeat (first | exact trivial | refine ⟨by first | trivial | exact Weak.refl _ | exact Weak.tok _ _ _ | exact Weak.of_eq (congrArg (AV.int _) (by omega)) | exact Weak.of_eq (congrArg AV.bool (by fail)) | exact Weak.nils _ _ (.inr rfl), ?_⟩), .none _, hlt, ?_⟩
          rw [hd, ← List.append_assoc]
          simpa [formB, Part.b, q1, qB, deadN] using hrun'
        · have hge : i = x.queue.length := by simp at hc; omega
          subst hge
          rw [List.take_length] at hrun
          clear hc hi
          have hp := enc1_ps x
          have he : encB x = encA x ++ x.queue.map (q1 x.id) ++ [⟨rkey 1 115 x.id 0, formB [.s x.name, .s x.topic, .n x.lease, .n x.most, .n x.floor]⟩] := by simp [encB, s1, sB, formB, Part.b]
          rw [he] at hp
          refine SCall.w (step _ _ hrun 115 0 [.s x.name, .s x.topic, .n x.lease, .n x.most, .n x.floor] .full (by simp; omega) (by have := num_le x.name.length; have := num_le x.topic.length; have := num_le x.lease; have := num_le x.most; have := num_le x.floor; simp [formB, Part.b, txt]; omega) (by simp) hp) rfl ?_; rintro r s' ⟨rfl, hrun'⟩ hB; refine ⟨_, .nil _, ?_⟩; clear hB; (conv => whnf)
          rw [← he] at hrun'
          clear hp he hrun
          refine SIf.meet Ty.mixed (fun _ : Unit => [(1, .vp (eSub x)), (4, .fn (.func 102) [] [.ptr bo 0, .vp (.fn (.yield l) [] []), .vp (eSub x)])]) (fun _ => []) (fun _ s => RunAt σ F FO I D bo (encB x ++ want1 x) s) ?_ ?_ ?_
          · intro hc
            have hne : x.want ≠ [] := by rintro e; simp [e] at hc
            have hp := enc1_pw x
            have he : want1 x = [⟨rkey 1 119 x.id 0, formB [.s x.want]⟩] := by simp [want1, hne, formB, Part.b]
            rw [he] at hp ⊢
            (conv => whnf); refine SCall.w (step _ _ hrun' 119 0 [.s x.want] .full (by simp; omega) (by have := num_le x.want.length; simp [formB, Part.b, txt]; omega) (by simp) hp) rfl ?_; rintro r s' ⟨rfl, hrun2⟩ hB; refine ⟨_, .nil _, ?_⟩; clear hB; (conv => whnf)
            exact ⟨(), by repeat (first | exact trivial | refine ⟨by first | trivial | exact Weak.refl _ | exact Weak.tok _ _ _ | exact Weak.of_eq (congrArg (AV.int _) (by omega)) | exact Weak.of_eq (congrArg AV.bool (by fail)) | exact Weak.nils _ _ (.inr rfl), ?_⟩), .none _, hrun2⟩
          · intro hc
            have hne : x.want = [] := by simpa using hc
            have he : want1 x = [] := by simp [want1, hne]
            rw [he, List.append_nil]
            (conv => whnf)
            exact ⟨(), by repeat (first | exact trivial | refine ⟨by first | trivial | exact Weak.refl _ | exact Weak.tok _ _ _ | exact Weak.of_eq (congrArg (AV.int _) (by omega)) | exact Weak.of_eq (congrArg AV.bool (by fail)) | exact Weak.nils _ _ (.inr rfl), ?_⟩), .none _, hrun'⟩
          clear hrun' s' s; rintro _ s hrun; (conv => whnf)
          skip
          refine SLoop.by Ty.mixed (fun i : Nat => x.queue.length - i) (fun i => [(1, .vp (eSub x)), (4, .fn (.func 102) [] [.ptr bo 0, .vp (.fn (.yield l) [] []), .vp (eSub x)]), (89, eMsgs x.queue), (90, .int .i64 x.queue.length), (91, .int .i64 i)]) (fun _ => []) (fun i s => i ≤ x.queue.length ∧ RunAt σ F FO I D bo (encB x ++ want1 x ++ (x.queue.take i).flatMap (x1 x.id)) s) 0 ⟨?_, .none _, Nat.zero_le _, by rw [List.take_zero, List.flatMap_nil, List.append_nil]; exact hrun⟩ ?_
          · show xWeak [(1, .vp (eSub x)), (4, .fn (.func 102) [] [.ptr bo 0, .vp (.fn (.yield l) [] []), .vp (eSub x)]), (89, eMsgs x.queue), (90, .int .i64 x.queue.length), (91, .int .i64 (0 : Nat))] _
            rw [List.length_map]
            repeat (first | exact trivial | refine ⟨by first | trivial | exact Weak.refl _ | exact Weak.tok _ _ _ | exact Weak.of_eq (congrArg (AV.int _) (by omega)) | exact Weak.of_eq (congrArg AV.bool (by fail)) | exact Weak.nils _ _ (.inr rfl), ?_⟩)
          · clear hrun s
            rintro i s ⟨hi, hrun⟩; (conv => whnf)
            skip
            (refine SIf.x Ty.mixed (fun hc => ?_) (fun hc => ?_) <;> (conv => whnf))
            · have hlt : i < x.queue.length := by simp at hc; omega
              have ga : x.queue[i]? = some x.queue[i] := by simp [hlt]
              have hd := flat_take_snoc (x1 x.id) ga
              have hp := enc1_px x (i + 1)
              generalize x.queue[i] = m at ga hd
              rw [hd, ← List.append_assoc] at hp
              have hgm : (x.queue.map eMsg)[i]? = some (eMsg m) := by rw [List.getElem?_map, ga]; rfl
              refine ⟨_, ⟨by first | omega | (simp only [List.length_cons, List.length_append, List.length_nil, List.length_map, length_aBytes, List.length_replicate, List.length_range]; omega) | fail, by exact hgm⟩, ?_⟩
              (conv => whnf); intro b10 hb10; (conv => whnf); refine SStore.on 0 rfl ?_; (conv => whnf); refine SLoad.on 0 rfl ?_; (conv => whnf)
              (refine SCond.mk (fun hc => ?_) (fun hc => ?_) <;> (conv => whnf))
              · have hx1 : x1 x.id m = [⟨rkey 1 120 x.id m.seq, formB [.n m.prio, .n (deathN m)]⟩] := by
                  have h : m.prio ≠ 0 ∨ m.dead = true := by simp_all
                  simp [x1, h, xB, formB, Part.b]
                rw [hx1] at hp
                refine SCond.y (by assumption) ?_; (conv => whnf); refine SPick.y (by assumption) ?_; (conv => whnf); refine SIf.y Ty.mixed (by exact rfl) ?_; (conv => whnf); refine SReg.fz 10 hb10 rfl rfl ?_; (conv => whnf); refine SReg.d [0, 1, 2, 3, 4, 5, 6, 7, 8, 9, 10] [0, 0, 0, 0, 0, 0, 0, 0, 0, 0, 2] (by decide +kernel) ?_; (conv => whnf); (conv => whnf); refine SCall.p (by exact death1_any w0 m) ?_; (conv => whnf)
                refine SCall.w (step _ _ hrun 120 m.seq [.n m.prio, .n (deathN m)] .full (by simp) (by have := num_le m.prio; have := num_le (deathN m); simp [formB, Part.b]; omega) (by simp) hp) rfl ?_; rintro r s' ⟨rfl, hrun'⟩ hB; refine ⟨_, .nil _, ?_⟩; clear hB; (conv => whnf); refine ⟨_, IntWalk.i64_in _ (by omega), ?_⟩; (conv => whnf)
                exact ⟨i + 1, by omega, by repeat (first | exact trivial | refine ⟨by first | trivial | exact Weak.refl _ | exact Weak.tok _ _ _ | exact Weak.of_eq (congrArg (AV.int _) (by omega)) | exact Weak.of_eq (congrArg AV.bool (by fail)) | exact Weak.nils _ _ (.inr rfl), ?_⟩), .none _, hlt, by rw [hd, ← List.append_assoc, hx1]; exact hrun'⟩
              · refine SCond.n (by assumption) ?_
                (conv => whnf); refine SLoad.on 0 rfl ?_; (conv => whnf); refine SPick.n (by assumption) ?_; (conv => whnf)
                (refine SIf.x Ty.mixed (fun hc => ?_) (fun hc => ?_) <;> (conv => whnf))
                · have hx1 : x1 x.id m = [⟨rkey 1 120 x.id m.seq, formB [.n m.prio, .n (deathN m)]⟩] := by
                    have h : m.prio ≠ 0 ∨ m.dead = true := by simp_all
                    simp [x1, h, xB, formB, Part.b]
                  rw [hx1] at hp
                  refine SReg.fz 10 hb10 rfl rfl ?_; (conv => whnf); refine SReg.d [0, 1, 2, 3, 4, 5, 6, 7, 8, 9, 10] [0, 0, 0, 0, 0, 0, 0, 0, 0, 0, 2] (by decide +kernel) ?_; (conv => whnf); (conv => whnf); refine SCall.p (by exact death1_any w0 m) ?_; (conv => whnf)
                  refine SCall.w (step _ _ hrun 120 m.seq [.n m.prio, .n (deathN m)] .full (by simp) (by have := num_le m.prio; have := num_le (deathN m); simp [formB, Part.b]; omega) (by simp) hp) rfl ?_; rintro r s' ⟨rfl, hrun'⟩ hB; refine ⟨_, .nil _, ?_⟩; clear hB; (conv => whnf); refine ⟨_, IntWalk.i64_in _ (by omega), ?_⟩; (conv => whnf)
                  exact ⟨i + 1, by omega, by repeat (first | exact trivial | refine ⟨by first | trivial | exact Weak.refl _ | exact Weak.tok _ _ _ | exact Weak.of_eq (congrArg (AV.int _) (by omega)) | exact Weak.of_eq (congrArg AV.bool (by fail)) | exact Weak.nils _ _ (.inr rfl), ?_⟩), .none _, hlt, by rw [hd, ← List.append_assoc, hx1]; exact hrun'⟩
                · have hx1 : x1 x.id m = [] := by
                    have h : ¬ (m.prio ≠ 0 ∨ m.dead = true) := by simp_all
                    simp only [x1, if_neg h]
                  refine ⟨_, IntWalk.i64_in _ (by omega), ?_⟩; (conv => whnf)
                  refine ⟨i + 1, by omega, by repeat (first | exact trivial | refine ⟨by first | trivial | exact Weak.refl _ | exact Weak.tok _ _ _ | exact Weak.of_eq (congrArg (AV.int _) (by omega)) | exact Weak.of_eq (congrArg AV.bool (by fail)) | exact Weak.nils _ _ (.inr rfl), ?_⟩), .none _, hlt, ?_⟩
                  rw [hd, hx1, List.append_nil, setBox_setBox]
                  exact hrun.new hI hD _ (hfr _ _ hrun _ hb10)
            · have hge : i = x.queue.length := by simp at hc; omega
              subst hge
              rw [List.take_length] at hrun
              (conv => whnf)
              skip
              refine .w ⟨rfl, hrun.k, ?_⟩
              obtain ⟨b, _, hq⟩ := hrun.b
              rw [List.length_map]
              exact hq.imp (fun h => h.2) fun h => h.2⟩
end Go.Proofs.YtkbmkhhcppfcnaaDoor
end
section
set_option linter.unusedVariables false
set_option linter.unusedSimpArgs false
set_option maxRecDepth 100000
set_option maxHeartbeats 1000000
namespace Go.Proofs.YtkbmkhhcppfcnaaDoor
open Go.Al Go.RowKit
theorem appendRows_any (w0 : Base) (x : Sub) (rows : List Row) (hit : IterW Tryd.prog w0 101 [] [.vp (eSub x)] (rows.map fun r => [eRow r])) (hn : rows.length ≤ 10000000) (σ : St) :
    CallW Tryd.prog w0 100 [.nils, .fn (.func 101) [] [.vp (eSub x)]] σ (fun r s => ∃ tk, r = .slc 2 (rows.map eRow) tk ∧ Moves σ .full s tk) := by
  refine CallW.weaken (args' := [.slc 2 [] .full, .fn (.func 101) [] [.vp (eSub x)]]) ?_ (.cons (.nils 2 .full (.inr rfl)) (WeakL.refl _)); refine CallW.x (B := []) Ty.tok Ty.mixed Tryd.func100 rfl Tryd.ntmps100 rfl (by simp) (by decide +kernel) (.nil σ) ?_; (conv => whnf)
  refine SBox.b rfl ?_; (conv => whnf); intro b2 hb2; (conv => whnf)
  refine Stop.range Ty.tok Ty.mixed (f := 101) (first := []) (cap := [.vp (eSub x)]) rfl [7] rfl (by simp) (by decide +kernel) (by decide +kernel) (by simp) hit [b2] [] (fun (i, _) => i) (fun ((i, tk) : Nat × Tok) => [(b2, [.slc 2 ((rows.take i).map eRow) tk])]) (fun (i, tk) s => i ≤ rows.length ∧ MovesU σ .full s tk) (0, .full) (fun _ : Empty => .ret) (fun _ => []) (fun _ _ => False)
    (fun a => (Free.pure _).and (.movesU (le_new (.refl _) hb2))) (fun _ => .pure _) (by simp) (fun b => b.elim) (by simp) (fun b => b.elim) (by simp) (by simp) (fun b => b.elim) rfl (.refl _) ⟨Nat.zero_le _, (Moves.full σ).new hb2 |>.u⟩ ?_ ?_ (fun b => b.elim)
  · rintro ⟨i, tk⟩ s xs ⟨hi, hm⟩ hK hx
    obtain ⟨r, hr, rfl⟩ : ∃ r, rows[i]? = some r ∧ xs = [eRow r] := by
      rw [List.getElem?_map] at hx
      obtain ⟨r, h1, h2⟩ := Option.map_eq_some_iff.1 hx
      exact ⟨r, h1, h2.symm⟩
    have hd := map_take_snoc eRow hr
    have hil : i < rows.length := by obtain ⟨h, _⟩ := List.getElem?_eq_some_iff.1 hr; exact h
    (conv => whnf); intro b5 hb5; (conv => whnf); refine SStore.on 0 rfl ?_; (conv => whnf)
    refine ⟨rfl, .le (le_new2 (.refl _) hb5), fun l q hl => ?_⟩
    have htk := List.length_take_le i rows
    (conv => whnf); refine SLoad.on 1 rfl ?_; (conv => whnf); refine SLoad.on 0 rfl ?_; (conv => whnf)
    refine SApp.c rfl rfl (by exact Moves.refl hm.room) (by simp only [length_aBytes, List.length_append, List.length_cons, List.length_nil, List.length_map, List.length_range]; omega) fun tk1 σ1 hm' => ?_
    (conv => whnf); refine SStore.on 1 rfl ?_; (conv => whnf)
    have hmu : MovesU σ .full (((s.setBox b5 [AV.str [], AV.nils]).setBox b5 [AV.str r.key, AV.slc 1 (aBytes r.val) Tok.no]).setObj l q) tk := by
      have hb5' : σ.box b5 = none := by
        cases e : σ.box b5 with
        | none => rfl
        | some cs => rw [hm.box _ _ e] at hb5; cases hb5
      exact (Free.movesU (.refl σ)).obj _ _ _ hl ((Free.movesU (.refl σ)).box _ _ _ hb5' ((Free.movesU (.refl σ)).box _ _ _ hb5' hm))
    refine ⟨⟨fun j cs hj e => ?_, fun j o _ e => ?_⟩, (i + 1, tk1), rfl, ?_, hil, ?_⟩
    · rw [setBox_ne (by simpa using hj)]; exact hm'.box _ _ e
    · show σ1.obj j = _
      rw [hm'.obj]; exact e
    · show BSub [(b2, [.slc 2 ((rows.take (i + 1)).map eRow) tk1])] _
      rw [hd]
      exact .drop (.refl _)
    · exact (Free.movesU (.refl σ)).box _ _ _ hb2 (hmu.trans hm'.u)
  · rintro ⟨i, tk⟩ s hi ⟨_, hm⟩ hK
    have hi' : i = rows.length := by simpa using hi
    subst hi'
    (conv => whnf); refine SLoad.on 0 rfl ?_; (conv => whnf)
    refine ⟨fun hB => ⟨_, _, .refl _, hm.back.2, tk, ?_, hm.back.1⟩⟩
    rw [List.take_length]
theorem enc1_len (x : Sub) (hx : Fits x) : (enc1 x).length ≤ 400000 := by
  have h1 := note1_len x
  have h2 := want1_len x
  have h3 := x1s_len x.id x.queue
  have h4 := hx.nacks
  have h5 := hx.nqueue
  simp only [enc1, encB, encA, List.length_append, List.length_map, List.length_cons, List.length_nil]; omega
theorem collectRows_any (w0 : Base) (x : Sub) (rows : List Row) (hit : IterW Tryd.prog w0 101 [] [.vp (eSub x)] (rows.map fun r => [eRow r])) (hn : rows.length ≤ 10000000) :
    CallP Tryd.prog w0 54 [.fn (.func 101) [] [.vp (eSub x)]] (eRows rows) := by
  refine CallP.x Ty.tok Ty.mixed Tryd.func54 rfl Tryd.ntmps54 rfl (by simp) (by decide +kernel) fun σ => ?_
  (conv => whnf)
  refine SCall.r (appendRows_any w0 x rows hit hn _) rfl (fun _ _ h => h) fun tk1 σ1 hm => ?_
  (conv => whnf); exact .v hm.le (.tok _ _ _)
theorem rowsF_any (w0 : Base) (x : Sub) : CallP Tryd.prog w0 55 [eSub x] (.fn (.func 101) [] [.vp (eSub x)]) := by
  refine CallP.x Ty.tok Ty.mixed Tryd.func55 rfl Tryd.ntmps55 rfl (by simp) (by decide +kernel) fun σ => ?_
  (conv => whnf); refine SBox.f ?_; (conv => whnf); exact .w ⟨rfl, rfl⟩
theorem enc1_p (w0 : Base) (hL : Laid w0) (x : Sub) (hx : Fits x) : CallP Tryd.prog w0 24 [eSub x] (eRows (enc1 x)) := by
  refine CallP.x Ty.tok Ty.mixed Tryd.func24 rfl Tryd.ntmps24 rfl (by simp) (by decide +kernel) fun σ => ?_
  (conv => whnf); refine SBox.f ?_; (conv => whnf); refine SCall.p (by exact rowsF_any w0 x) ?_; (conv => whnf); refine SCall.p (by exact collectRows_any w0 x (enc1 x) (rows1_iter w0 hL x hx) (by have := enc1_len x hx; omega)) ?_; (conv => whnf); exact .w ⟨rfl, rfl⟩
end Go.Proofs.YtkbmkhhcppfcnaaDoor
end
section
set_option linter.unusedVariables false
namespace Go.Proofs.YtkbmkhhcppfcnaaDoor
open Go.Al
inductive Fm where
  | s (l : List UInt8)
  | n (k : Int)
def eFm : Fm → AV
  | .s l => .ifc 9 (.str l)
  | .n k => .ifc 3 (.int .i64 k)
def f1 : Fm → List UInt8
  | .s l => txt l
  | .n k => num k
def fB : List Fm → List UInt8
  | [] => []
  | [x] => f1 x
  | x :: y :: l => f1 x ++ fB (y :: l)
def FmOk (l : List Fm) : Prop := l.length ≤ 1000 ∧ ∀ x ∈ l, (f1 x).length ≤ 2000
theorem f1_len_s {s : List UInt8} (h : s.length ≤ 1000) : (f1 (.s s)).length ≤ 2000 := by
  have := num_len s.length
  simp [f1, txt]; omega
theorem f1_len_n (k : Int) : (f1 (.n k)).length ≤ 2000 := by
  have := num_len k
  simp only [f1]; omega
def FmS : List Fm → Prop
  | [] => True
  | .s v :: l => v.length ≤ 1000 ∧ FmS l
  | .n _ :: l => FmS l
theorem FmS.ok : ∀ {l : List Fm}, FmS l → ∀ x ∈ l, (f1 x).length ≤ 2000
  | [], _, x, hx => by simp at hx
  | .s v :: l, h, x, hx => by
    rcases List.mem_cons.1 hx with rfl | hx
    · exact f1_len_s h.1
    · exact FmS.ok h.2 x hx
  | .n k :: l, h, x, hx => by
    rcases List.mem_cons.1 hx with rfl | hx
    · exact f1_len_n k
    · exact FmS.ok (l := l) h x hx
end Go.Proofs.YtkbmkhhcppfcnaaDoor
end
section
set_option linter.unusedVariables false
set_option linter.unusedSimpArgs false
set_option maxRecDepth 100000
namespace Go.Proofs.YtkbmkhhcppfcnaaDoor
open Go.Al Go.RowKit
theorem drop_get {v : List UInt8} {a : Nat} {c : UInt8} {r : List UInt8} (h : v.drop a = c :: r) : a < v.length ∧ v.getD a 0 = c ∧ v.drop (a + 1) = r := by
  have hl : a < v.length := by
    by_cases hl : a < v.length
    · exact hl
    · rw [List.drop_of_length_le (by omega)] at h; cases h
  rw [List.drop_eq_getElem_cons hl] at h
  injection h with h1 h2
  exact ⟨hl, by simp [List.getD, hl, h1], h2⟩
theorem byte_val {n : Nat} (h : n < 256) : (UInt8.ofNat n).toNat = n := by simp; omega
theorem gn_numB : ∀ (q k i m : Nat) (v : List UInt8) (a : Nat) (rest : List UInt8), v.drop (a + i) = numB q ++ rest → q < 128 ^ (k + 1) → (0 < i → q ≠ 0) → m + q * 2 ^ (7 * i) ≤ 9007199254740992 →
    gn v a (k + 1) i m = (m + q * 2 ^ (7 * i), a + i + (numB q).length, 0) ∧ v.drop (a + i + (numB q).length) = rest := by
  intro q
  induction q using Nat.strongRecOn with
  | _ q ih =>
    intro k i m v a rest hd hq hi hm
    by_cases h : q < 128
    · rw [numB_small h] at hd ⊢
      obtain ⟨hl, hc, hr⟩ := drop_get hd
      refine ⟨?_, hr⟩
      have hv : (UInt8.ofNat q).toNat = q := byte_val (by omega)
      rw [gn, if_neg (by omega)]
      dsimp only
      rw [hc, hv, Nat.mod_eq_of_lt h, if_pos h, if_neg (by omega)]
      rfl
    · rw [numB_big h] at hd ⊢
      obtain ⟨hl, hc, hr⟩ := drop_get hd
      have hv : (UInt8.ofNat (128 + q % 128)).toNat = 128 + q % 128 := byte_val (by omega)
      have hq0 : q / 128 ≠ 0 := by omega
      have hk : 128 ^ (k + 1) = 128 * 128 ^ k := by rw [Nat.pow_succ, Nat.mul_comm]
      cases k with
      | zero => exact absurd hq (by simp; omega)
      | succ k =>
      have e1 : (2 : Nat) ^ (7 * (i + 1)) = 128 * 2 ^ (7 * i) := by rw [show 7 * (i + 1) = 7 * i + 7 by omega, Nat.pow_add, Nat.mul_comm]
      have e2 : q % 128 * 2 ^ (7 * i) + q / 128 * 2 ^ (7 * (i + 1)) = q * 2 ^ (7 * i) := by
        rw [e1, ← Nat.mul_assoc, ← Nat.add_mul]; congr 1; omega
      obtain ⟨g1, g2⟩ := ih (q / 128) (by omega) k (i + 1) (m + q % 128 * 2 ^ (7 * i)) v a rest (by rw [show a + (i + 1) = a + i + 1 by omega]; exact hr) (by rw [hk] at hq; omega) (fun _ => hq0) (by omega)
      refine ⟨?_, ?_⟩
      · rw [gn, if_neg (by omega)]
        dsimp only
        rw [hc, hv, if_neg (by omega), show (128 + q % 128) % 128 = q % 128 by omega, g1]
        rw [List.length_cons]
        congr 1
        · omega
        · congr 1; omega
      · rw [List.length_cons, ← g2]; congr 1; omega
def At (v : List UInt8) (a : Nat) (r : List UInt8) : Prop := a ≤ v.length ∧ v.drop a = r
theorem at_start (v : List UInt8) : At v 0 v := ⟨Nat.zero_le _, rfl⟩
def n53 (n : Int) : Prop := 0 ≤ n ∧ n ≤ 9007199254740992
theorem clampN_53 {n : Int} (h : n53 n) : ((clampN n : Nat) : Int) = n := by unfold n53 at h; unfold clampN; omega
theorem at_len {v : List UInt8} {a : Nat} {x r : List UInt8} (h : At v a (x ++ r)) : a + x.length ≤ v.length := by
  have h1 := congrArg List.length h.2
  have := h.1
  simp at h1; omega
theorem getNum_at {v : List UInt8} {a : Nat} {n : Int} {r : List UInt8} (h : At v a (num n ++ r)) : getNum v a = (clampN n, a + (num n).length, 0) ∧ At v (a + (num n).length) r := by
  have hc := clampN_le n
  obtain ⟨g1, g2⟩ := gn_numB (clampN n) 7 0 0 v a r (by simpa [num] using h.2) (by omega) (fun h => absurd h (by decide)) (by simpa using hc)
  have e : num n = numB (clampN n) := rfl
  refine ⟨?_, at_len h, ?_⟩
  · rw [getNum, if_neg (by have := h.1; omega), g1, e]; simp
  · rw [e, ← g2]; simp
theorem getText_at {v : List UInt8} {a most : Nat} {s : List UInt8} {r : List UInt8} (h : At v a (txt s ++ r)) (hs : s.length ≤ most) (hm : most ≤ 9007199254740992) : getText v a most = (s, a + (txt s).length, 0) ∧ At v (a + (txt s).length) r := by
  rw [txt, List.append_assoc] at h
  obtain ⟨g1, g2⟩ := getNum_at h
  have hcl : clampN (s.length : Int) = s.length := by unfold clampN; omega
  have hl := at_len g2
  have hd : (v.drop (a + (num s.length).length)).take s.length = s := by rw [g2.2, List.take_left']; rfl
  have e : (txt s).length = (num s.length).length + s.length := by simp [txt]
  have hx : (v.take (a + (num s.length).length + s.length)).drop (a + (num s.length).length) = s := by
    rw [List.drop_take, show a + (num s.length).length + s.length - (a + (num s.length).length) = s.length by omega, hd]
  refine ⟨?_, by omega, ?_⟩
  · rw [getText, g1, hcl]
    dsimp only
    rw [if_neg (by simp), if_neg (by omega), if_neg (by omega), hx, e, Nat.add_assoc]
  · rw [e, ← Nat.add_assoc, ← List.drop_drop, g2.2, List.drop_left']; rfl
end Go.Proofs.YtkbmkhhcppfcnaaDoor
end
section
set_option linter.unusedVariables false
set_option linter.unusedSimpArgs false
set_option maxRecDepth 100000
set_option maxHeartbeats 400000
namespace Go.Proofs.YtkbmkhhcppfcnaaDoor
open Go.Al Go.RowKit
def gL (c : List UInt8) (i : Nat) : Nat := (c.getD i 0).toNat
def letter (k i : Nat) : UInt8 := UInt8.ofNat (97 + (i + k) % 26)
def textL (k most : Nat) : List UInt8 := (List.range (k % (most + 1))).map (letter k)
end Go.Proofs.YtkbmkhhcppfcnaaDoor
end
section
set_option linter.unusedVariables false
namespace Go.Proofs.YtkbmkhhcppfcnaaDoor
open Go.Al
def Rise : Int → List Int → Prop
  | _, [] => True
  | lo, a :: l => lo < a ∧ Rise a l
theorem Rise.lt : ∀ {l : List Int} {lo : Int}, Rise lo l → ∀ a ∈ l, lo < a
  | [], _, _, a, h => by simp at h
  | b :: l, lo, h, a, ha => by
    rcases List.mem_cons.1 ha with rfl | ha
    · exact h.1
    · have := Rise.lt h.2 a ha
      have := h.1
      omega
structure MsgOk (clock most lease : Int) (m : Msg) : Prop where
  body : m.body.length ≤ 60
  attr : m.attr = [] ∨ m.attr = [97, 61, 49] ∨ m.attr = [98, 61, 50]
  prio : 0 ≤ m.prio ∧ m.prio ≤ 9
  st : (m.dead = false ∧ m.why = [] ∧ m.until_ = 0 ∧ 0 ≤ m.tries ∧ m.tries < most) ∨ (m.dead = false ∧ m.why = [] ∧ (1 ≤ m.tries ∧ m.tries ≤ most) ∧ clock < m.until_ ∧ m.until_ ≤ clock + lease) ∨
    (m.dead = true ∧ m.until_ = 0 ∧ m.tries = most ∧ (m.why = [110, 97, 99, 107] ∨ m.why = [116, 105, 109, 101]))
def TopicOk (v : List UInt8) : Prop := v = [35] ∨ v = [97] ∨ v = [97, 47, 43] ∨ v = [98, 47, 35]
def WantOk (v : List UInt8) : Prop := v = [] ∨ v = [97, 61, 49] ∨ v = [97, 61, 49, 44, 98, 61, 50]
structure Grown (id clock next : Nat) (x : Sub) : Prop where
  name : ∃ k, k < 256 ∧ x.name = 110 :: textL k 19
  topic : TopicOk x.topic
  want : WantOk x.want
  note : x.note.length ≤ 30
  id : x.id = id
  most : 1 ≤ x.most ∧ x.most ≤ 9
  lease : 1 ≤ x.lease ∧ x.lease ≤ 1000
  floor : 0 ≤ x.floor ∧ x.floor < next
  nacks : x.acks.length ≤ 20
  nqueue : x.queue.length ≤ 30
  rise : Rise x.floor x.acks
  high : ∀ a ∈ x.acks, a < next
  qrise : Rise x.floor (x.queue.map Msg.seq)
  qhigh : ∀ m ∈ x.queue, m.seq < next
  apart : ∀ a ∈ x.acks, ∀ m ∈ x.queue, a ≠ m.seq
  msgs : ∀ m ∈ x.queue, MsgOk clock x.most x.lease m
theorem TopicOk.len {v : List UInt8} (h : TopicOk v) : v.length ≤ 30 := by rcases h with rfl | rfl | rfl | rfl <;> decide
theorem WantOk.len {v : List UInt8} (h : WantOk v) : v.length ≤ 30 := by rcases h with rfl | rfl | rfl <;> decide
structure UpTo (x : Sub) (seq : Int) : Prop where
  floor : x.floor ≤ seq
  acks : ∀ a ∈ x.acks, a ≤ seq
  queue : ∀ m ∈ x.queue, m.seq ≤ seq
end Go.Proofs.YtkbmkhhcppfcnaaDoor
end
section
set_option linter.unusedVariables false
set_option linter.unusedSimpArgs false
namespace Go.Proofs.YtkbmkhhcppfcnaaDoor
open Go.Al
structure Pts where
  v : Nat
  t : UInt8
  id : Int
  seq : Int
  ok : Bool
def Pts.none : Pts := ⟨0, 0, 0, 0, false⟩
def parts (k : List UInt8) : Pts :=
  if k.length = 22 ∧ (48 ≤ (k.getD 0 0).toNat ∧ (k.getD 0 0).toNat ≤ 57) ∧ (97 ≤ (k.getD 1 0).toNat ∧ (k.getD 1 0).toNat ≤ 122) then
    if (goAtoi ((k.take 12).drop 2)).2 = true ∧ (goAtoi (k.drop 12)).2 = true ∧ rkey ((k.getD 0 0).toNat - 48) (k.getD 1 0) (goAtoi ((k.take 12).drop 2)).1 (goAtoi (k.drop 12)).1 = k then
      ⟨(k.getD 0 0).toNat - 48, k.getD 1 0, (goAtoi ((k.take 12).drop 2)).1, (goAtoi (k.drop 12)).1, true⟩
    else .none
  else .none
theorem cl_nn {n : Int} (h : 0 ≤ n ∧ n ≤ 9999999999) : ((cl n : Nat) : Int) = n := by unfold cl; omega
theorem goAtoi_dN (n : Int) : goAtoi (dN 10 (cl n)) = (((cl n : Nat) : Int), true) := goAtoi_ok (n := ((cl n : Nat) : Int)) (by rw [dN_length]; decide) (atoi_dN 9 (cl n) (cl_lt n))
theorem rkey_take (v : Nat) (t : UInt8) (id seq : Int) : ((rkey v t id seq).take 12).drop 2 = dN 10 (cl id) := by
  have hA := dN_length 10 (cl id)
  show ((dN 10 (cl id)) ++ (dN 10 (cl seq))).take 10 = _
  rw [List.take_append_of_le_length (by omega), List.take_of_length_le (by omega)]
theorem rkey_drop (v : Nat) (t : UInt8) (id seq : Int) : (rkey v t id seq).drop 12 = dN 10 (cl seq) := by
  have hA := dN_length 10 (cl id)
  show ((dN 10 (cl id)) ++ (dN 10 (cl seq))).drop 10 = _
  rw [List.drop_append_of_le_length (by omega), List.drop_of_length_le (by omega)]; rfl
theorem rkey_0 (v : Nat) (t : UInt8) (id seq : Int) : (rkey v t id seq).getD 0 0 = UInt8.ofNat (48 + v) := rfl
theorem rkey_1 (v : Nat) (t : UInt8) (id seq : Int) : (rkey v t id seq).getD 1 0 = t := rfl
theorem rkey_cl (v : Nat) (t : UInt8) (id seq : Int) : rkey v t (cl id : Nat) (cl seq : Nat) = rkey v t id seq := by
  have h : ∀ n : Int, cl ((cl n : Nat) : Int) = cl n := fun n => by unfold cl; omega
  simp only [rkey, h]
theorem parts_rkey {v : Nat} (hv : v < 10) {t : UInt8} (ht : 97 ≤ t.toNat ∧ t.toNat ≤ 122) (id seq : Int) : parts (rkey v t id seq) = ⟨v, t, (cl id : Nat), (cl seq : Nat), true⟩ := by
  have hb : (UInt8.ofNat (48 + v)).toNat = 48 + v := byte_val (by omega)
  rw [parts, rkey_0, rkey_1, rkey_take, rkey_drop, goAtoi_dN, goAtoi_dN, hb, rkey_length, if_pos ⟨rfl, by omega, ht⟩]
  rw [show 48 + v - 48 = v by omega]
  simp only [rkey_cl, and_self, if_true]
def partsR (k : List UInt8) : Pts :=
  if k.length = 22 ∧ (97 ≤ (k.getD 1 0).toNat ∧ (k.getD 1 0).toNat ≤ 122) then
    if rkey (goAtoi (k.take 1)).1.toNat (k.getD 1 0) (goAtoi ((k.take 12).drop 2)).1 (goAtoi (k.drop 12)).1 = k then
      ⟨(goAtoi (k.take 1)).1.toNat, k.getD 1 0, (goAtoi ((k.take 12).drop 2)).1, (goAtoi (k.drop 12)).1, true⟩
    else .none
  else .none
end Go.Proofs.YtkbmkhhcppfcnaaDoor
end
section
set_option linter.unusedVariables false
set_option linter.unusedSimpArgs false
namespace Go.Proofs.YtkbmkhhcppfcnaaDoor
open Go.Al
def whyN (k : Nat) : List UInt8 := if k = 0 then [] else if k = 1 then [110, 97, 99, 107] else [116, 105, 109, 101]
def rMsg (seq : Int) (v : List UInt8) (a : Nat) (f : Option Nat) : Msg × Nat × Option Nat :=
  let p1 := rText v a f 60
  let p2 := rText v p1.2.1 p1.2.2 30
  let p3 := rNum v p2.2.1 p2.2.2
  let p4 := rNum v p3.2.1 p3.2.2
  let p5 := rNum v p4.2.1 p4.2.2
  let p6 := rNum v p5.2.1 p5.2.2
  (⟨seq, p1.1, p2.1, p3.1, p4.1, decide ((0 : Int) < (p6.1 : Int)), whyN (min p6.1 2), p5.1⟩, p6.2.1, p6.2.2)
def rSub (x : Sub) (v : List UInt8) : Sub × Option Nat :=
  let p1 := rText v 0 none 30
  let p2 := rText v p1.2.1 p1.2.2 30
  let p3 := rText v p2.2.1 p2.2.2 30
  let p4 := rNum v p3.2.1 p3.2.2
  let p5 := rNum v p4.2.1 p4.2.2
  let p6 := rNum v p5.2.1 p5.2.2
  let p7 := rText v p6.2.1 p6.2.2 30
  ({ x with name := p1.1, topic := p2.1, want := p3.1, lease := p4.1, most := p5.1, floor := p6.1, note := p7.1 }, p7.2.2)
def rGaps (v : List UInt8) : Nat → Nat → Option Nat → List Int → List Int × Option Nat
  | 0, _, f, acc => (acc, f)
  | n + 1, a, f, acc => if f = none then rGaps v n (rNum v a f).2.1 (rNum v a f).2.2 (acc ++ [((rNum v a f).1 : Int)]) else (acc, f)
structure D3 where
  x : Sub
  gaps : List Int
  good : Bool
def sub0 : Sub := ⟨0, [], [], [], 0, 0, 0, [], [], []⟩
def dRow (d : D3) (r : Row) : D3 × Option Nat :=
  let p := parts r.key
  let x := { d.x with id := p.id }
  if p.t = 97 then
    let q := rNum r.val 0 none
    let g := rGaps r.val q.1 q.2.1 q.2.2 d.gaps
    (⟨x, g.1, d.good⟩, g.2)
  else if p.t = 113 then
    let m := rMsg p.seq r.val 0 none
    (⟨{ x with queue := x.queue ++ [m.1] }, d.gaps, d.good⟩, m.2.2)
  else if p.t = 115 then
    let s := rSub x r.val
    (⟨s.1, d.gaps, d.good⟩, s.2)
  else (⟨x, d.gaps, d.good⟩, none)
def gtS (a b : List UInt8) : Bool := !(ltS a b || decide (a = b))
def dStep (d : D3) (i : Nat) (prev : List UInt8) (r : Row) : D3 :=
  let q := dRow d r
  { q.1 with good := d.good && (decide (i = 0) || gtS r.key prev) && q.2.isNone }
def dRows (l : List Row) : Nat → D3
  | 0 => ⟨sub0, [], true⟩
  | i + 1 => dStep (dRows l i) i ((l[i - 1]?).getD ⟨[], []⟩).key ((l[i]?).getD ⟨[], []⟩)
def runUp (last : Int) : List Int → List Int
  | [] => []
  | g :: l => w64 (last + g) :: runUp (w64 (last + g)) l
def dSub (l : List Row) : Sub := let d := dRows l l.length; { d.x with acks := runUp d.x.floor d.gaps }
def dec3 (l : List Row) : Sub × Nat := if (dRows l l.length).good = true ∧ enc3 (dSub l) = l then (dSub l, 0) else (sub0, 11)
end Go.Proofs.YtkbmkhhcppfcnaaDoor
end
section
set_option linter.unusedVariables false
set_option linter.unusedSimpArgs false
namespace Go.Proofs.YtkbmkhhcppfcnaaDoor
open Go.Al
theorem getText_far (v : List UInt8) (a most : Nat) : (getText v a most).2.1 ≤ v.length ∧ (getText v a most).1.length ≤ most := by
  have h := (getNum_le v a).1
  unfold getText
  dsimp only
  split
  · simp
  · split
    · simp
    · split
      · simp
      · simp; omega
def tot (l : List Row) : Nat := (l.map fun r => r.val.length + 1).sum
structure DFit (d : D3) (n m : Nat) : Prop where
  name : d.x.name.length ≤ 1000
  topic : d.x.topic.length ≤ 1000
  want : d.x.want.length ≤ 1000
  note : d.x.note.length ≤ 1000
  acks : d.x.acks = []
  gaps : d.gaps.length ≤ n
  queue : d.x.queue.length ≤ m
  msgs : ∀ m ∈ d.x.queue, m.body.length ≤ 1000 ∧ m.attr.length ≤ 1000
end Go.Proofs.YtkbmkhhcppfcnaaDoor
end
section
set_option linter.unusedVariables false
set_option linter.unusedSimpArgs false
namespace Go.Proofs.YtkbmkhhcppfcnaaDoor
open Go.Al
theorem ltS_nil (l : List UInt8) : ltS l [] = false := by cases l <;> rfl
theorem ltS_cons (a b : UInt8) (l m : List UInt8) : ltS (a :: l) (b :: m) = (decide (a < b) || (a == b && ltS l m)) := rfl
theorem ltS_irr : ∀ l : List UInt8, ltS l l = false
  | [] => rfl
  | a :: l => by rw [ltS_cons, ltS_irr l]; simp
theorem ltS_app : ∀ (p l m : List UInt8), ltS (p ++ l) (p ++ m) = ltS l m
  | [], l, m => rfl
  | a :: p, l, m => by rw [List.cons_append, List.cons_append, ltS_cons, ltS_app p]; simp
theorem ltS_same : ∀ (p q l m : List UInt8), p.length = q.length → ltS p q = true → ltS (p ++ l) (q ++ m) = true
  | [], [], l, m, _, h => by cases h
  | a :: p, b :: q, l, m, hl, h => by
    rw [ltS_cons] at h
    rw [List.cons_append, List.cons_append, ltS_cons]
    simp only [Bool.or_eq_true, Bool.and_eq_true] at h ⊢
    exact h.imp id fun h => ⟨h.1, ltS_same p q l m (by simpa using hl) h.2⟩
theorem ltS_asymm : ∀ (l m : List UInt8), ltS l m = true → ltS m l = false
  | l, [], h => by rw [ltS_nil] at h; cases h
  | [], b :: m, _ => rfl
  | a :: l, b :: m, h => by
    rw [ltS_cons] at h ⊢
    simp only [Bool.or_eq_true, Bool.and_eq_true, decide_eq_true_eq, beq_iff_eq] at h
    simp only [Bool.or_eq_false_iff, Bool.and_eq_false_iff, decide_eq_false_iff_not]
    rcases h with h | ⟨rfl, h⟩
    · have hn : a.toNat < b.toNat := h
      refine ⟨fun h' => ?_, .inl ?_⟩
      · have : b.toNat < a.toNat := h'
        omega
      · rw [beq_eq_false_iff_ne]
        rintro rfl
        omega
    · exact ⟨fun h' => by have : a.toNat < a.toNat := h'; omega, .inr (ltS_asymm l m h)⟩
theorem ltS_not_le {a b : List UInt8} (h : ltS a b = true) : (ltS b a || decide (b = a)) = false := by
  rw [ltS_asymm a b h, Bool.false_or, decide_eq_false_iff_not]
  rintro rfl
  rw [ltS_irr] at h; cases h
theorem dN_lt : ∀ (k a b : Nat), a < b → b < 10 ^ k → ltS (dN k a) (dN k b) = true
  | 0, a, b, h, hb => by simp at hb; omega
  | k + 1, a, b, h, hb => by
    rw [dN, dN]
    have hb' : b / 10 < 10 ^ k := by rw [Nat.pow_succ] at hb; omega
    by_cases hq : a / 10 < b / 10
    · exact ltS_same _ _ _ _ (by rw [dN_length, dN_length]) (dN_lt k _ _ hq hb')
    · have he : a / 10 = b / 10 := by omega
      rw [he, ltS_app, ltS_cons]
      have h1 : (dig a).toNat = 48 + a % 10 := by rw [dig, byte_val (by omega)]
      have h2 : (dig b).toNat = 48 + b % 10 := by rw [dig, byte_val (by omega)]
      have : dig a < dig b := by show (dig a).toNat < (dig b).toNat; omega
      simp [this]
theorem cl_mono {a b : Int} (h0 : 0 ≤ a) (h : a < b) (hb : b ≤ 9999999999) : cl a < cl b := by unfold cl; omega
theorem rkey_seq (v : Nat) (t : UInt8) (id : Int) {a b : Int} (h0 : 0 ≤ a) (h : a < b) (hb : b ≤ 9999999999) : ltS (rkey v t id a) (rkey v t id b) = true := by
  rw [rkey, rkey, ltS_app]
  exact dN_lt 10 _ _ (cl_mono h0 h hb) (cl_lt b)
theorem rkey_table (v : Nat) {t u : UInt8} (h : t.toNat < u.toNat) (id a b : Int) : ltS (rkey v t id a) (rkey v u id b) = true := by
  show ltS (UInt8.ofNat (48 + v) :: t :: (dN 10 (cl id) ++ dN 10 (cl a))) (UInt8.ofNat (48 + v) :: u :: (dN 10 (cl id) ++ dN 10 (cl b))) = true
  rw [ltS_cons, ltS_cons]
  have : t < u := h
  simp [this]
def Up (l : List Row) : Prop := l.Pairwise fun a b => ltS a.key b.key = true
theorem Up.get {l : List Row} (h : Up l) {i : Nat} {a b : Row} (ha : l[i]? = some a) (hb : l[i + 1]? = some b) : ltS a.key b.key = true := by
  obtain ⟨h1, rfl⟩ := List.getElem?_eq_some_iff.1 ha
  obtain ⟨h2, rfl⟩ := List.getElem?_eq_some_iff.1 hb
  exact List.pairwise_iff_getElem.1 h i (i + 1) h1 h2 (by omega)
theorem rise_rows (v : Nat) (t : UInt8) (id : Int) (f : Msg → List UInt8) : ∀ (q : List Msg) (lo : Int), 0 ≤ lo → Rise lo (q.map Msg.seq) → (∀ m ∈ q, m.seq ≤ 9999999999) → Up (q.map fun m => ⟨rkey v t id m.seq, f m⟩)
  | [], _, _, _, _ => .nil
  | m :: q, lo, h0, h, hh => by
    have h1 : lo < m.seq := h.1
    refine .cons ?_ (rise_rows v t id f q m.seq (by omega) h.2 fun x hx => hh x (by simp [hx]))
    intro r hr
    obtain ⟨x, hx, rfl⟩ := List.mem_map.1 hr
    have : m.seq < x.seq := h.2.lt _ (List.mem_map.2 ⟨x, hx, rfl⟩)
    exact rkey_seq v t id (by omega) this (hh x (by simp [hx]))
end Go.Proofs.YtkbmkhhcppfcnaaDoor
end
section
set_option linter.unusedVariables false
namespace Go.Proofs.YtkbmkhhcppfcnaaDoor
open Go.Al
def leS (a b : List UInt8) : Bool := ltS a b || decide (a = b)
def upTo (l : List Row) : Nat → Bool
  | 0 => true
  | i + 1 => upTo l i && (decide (i = 0) || !leS ((l[i]?.getD ⟨[], []⟩).key) ((l[i - 1]?.getD ⟨[], []⟩).key))
theorem upTo_false {l : List Row} : ∀ {n i : Nat}, i ≤ n → upTo l i = false → upTo l n = false
  | 0, i, h, e => by
    have : i = 0 := by omega
    subst this; exact e
  | n + 1, i, h, e => by
    by_cases hi : i = n + 1
    · subst hi; exact e
    · rw [upTo, upTo_false (show i ≤ n by omega) e]; rfl
theorem upTo_up {l : List Row} (h : Up l) : ∀ i, i ≤ l.length → upTo l i = true
  | 0, _ => rfl
  | i + 1, hi => by
    rw [upTo, upTo_up h i (by omega)]
    by_cases h0 : i = 0
    · simp [h0]
    · obtain ⟨j, rfl⟩ : ∃ j, i = j + 1 := ⟨i - 1, by omega⟩
      have ga : l[j]? = some (l[j]'(by omega)) := by simp
      have gb : l[j + 1]? = some (l[j + 1]'(by omega)) := by simp
      have := ltS_not_le (h.get ga gb)
      simp only [leS, Nat.add_sub_cancel, ga, gb, Option.getD_some]
      rw [this]; simp
def note2 (x : Sub) : List Row := if x.note = [] then [] else [⟨rkey 2 110 x.id 0, txt x.note⟩]
def ack2 (x : Sub) : List Row := if x.acks = [] then [] else [⟨rkey 2 97 x.id 0, acksB x⟩]
def b2 (id : Int) (m : Msg) : Row := ⟨rkey 2 98 id m.seq, txt m.body⟩
def qB2 (m : Msg) : List UInt8 := txt m.attr ++ (num m.tries ++ (num m.until_ ++ num (deadN m)))
def q2 (id : Int) (m : Msg) : Row := ⟨rkey 2 113 id m.seq, qB2 m⟩
def sB2 (x : Sub) : List UInt8 := txt x.name ++ (txt x.topic ++ (txt x.want ++ (num x.lease ++ (num x.most ++ num x.floor))))
def s2 (x : Sub) : Row := ⟨rkey 2 115 x.id 0, sB2 x⟩
def x2 (id : Int) (m : Msg) : List Row := if m.prio ≠ 0 ∨ m.dead = true then [⟨rkey 2 120 id m.seq, xB m⟩] else []
def enc2 (x : Sub) : List Row := ack2 x ++ x.queue.map (b2 x.id) ++ note2 x ++ x.queue.map (q2 x.id) ++ [s2 x] ++ x.queue.flatMap (x2 x.id)
end Go.Proofs.YtkbmkhhcppfcnaaDoor
end
section
set_option linter.unusedVariables false
namespace Go.Proofs.YtkbmkhhcppfcnaaDoor
open Go.Al
def n2 (v : List UInt8) (s : Nat × Bool) : Nat × Nat × Bool :=
  if s.2 = true ∨ (getNum v s.1).2.2 ≠ 0 then (0, s.1, true) else ((getNum v s.1).1, (getNum v s.1).2.1, false)
def t2 (v : List UInt8) (s : Nat × Bool) (most : Nat) : List UInt8 × Nat × Bool :=
  if s.2 = true ∨ (getText v s.1 most).2.2 ≠ 0 then ([], s.1, true) else ((getText v s.1 most).1, (getText v s.1 most).2.1, false)
def gp2 (v : List UInt8) : Nat → Nat × Bool → List Int → List Int × Nat × Bool
  | 0, s, acc => (acc, s)
  | n + 1, s, acc => if s.2 = true then (acc, s) else gp2 v n (n2 v s).2 (acc ++ [((n2 v s).1 : Int)])
def mB (v : List UInt8) (m : Msg) : Msg := { m with body := (t2 v (0, false) 60).1 }
def mQ (v : List UInt8) (m : Msg) : Msg :=
  let p1 := t2 v (0, false) 30
  let p2 := n2 v p1.2
  let p3 := n2 v p2.2
  let p4 := n2 v p3.2
  { m with attr := p1.1, tries := p2.1, until_ := p3.1, dead := decide ((p4.1 : Int) = 1) }
def mX (v : List UInt8) (m : Msg) : Msg :=
  let p1 := n2 v (0, false)
  let p2 := n2 v p1.2
  { m with prio := p1.1, why := whyN (min p2.1 2) }
def sS (v : List UInt8) (x : Sub) : Sub :=
  let p1 := t2 v (0, false) 30
  let p2 := t2 v p1.2 30
  let p3 := t2 v p2.2 30
  let p4 := n2 v p3.2
  let p5 := n2 v p4.2
  let p6 := n2 v p5.2
  { x with name := p1.1, topic := p2.1, want := p3.1, lease := p4.1, most := p5.1, floor := p6.1 }
def msg0 (seq : Int) : Msg := ⟨seq, [], [], 0, 0, false, [], 0⟩
def updF (seq : Int) (f : Msg → Msg) : List Msg → List Msg
  | [] => []
  | m :: l => if m.seq = seq then f m :: l else m :: updF seq f l
def add2 (x : Sub) (r : Row) : Sub :=
  let p := parts r.key
  let x := { x with id := p.id }
  if p.t = 97 then { x with acks := (gp2 r.val (n2 r.val (0, false)).1 (n2 r.val (0, false)).2 x.acks).1 }
  else if p.t = 98 then { x with queue := updF p.seq (mB r.val) (x.queue ++ [msg0 p.seq]) }
  else if p.t = 110 then { x with note := (t2 r.val (0, false) 30).1 }
  else if p.t = 113 then { x with queue := updF p.seq (mQ r.val) x.queue }
  else if p.t = 115 then sS r.val x
  else if p.t = 120 then { x with queue := updF p.seq (mX r.val) x.queue }
  else x
def rows2 (l : List Row) : Sub := l.foldl add2 sub0
def fin2 (l : List Row) : Sub := let x := rows2 l; { x with acks := runUp x.floor x.acks }
def dec2 (l : List Row) : Sub × Nat := if upTo l l.length = true ∧ enc2 (fin2 l) = l then (fin2 l, 0) else (sub0, 11)
theorem n2_far (v : List UInt8) (s : Nat × Bool) : (n2 v s).2.1 ≤ max s.1 v.length := by
  unfold n2
  split
  · exact Nat.le_max_left ..
  · have := (getNum_le v s.1).1
    simp only; omega
theorem t2_far (v : List UInt8) (s : Nat × Bool) (most : Nat) : (t2 v s most).2.1 ≤ max s.1 v.length := by
  unfold t2
  split
  · exact Nat.le_max_left ..
  · have := (getText_far v s.1 most).1
    simp only; omega
theorem t2_len (v : List UInt8) (s : Nat × Bool) (most : Nat) : (t2 v s most).1.length ≤ most := by
  unfold t2
  split
  · simp
  · exact (getText_far v s.1 most).2
end Go.Proofs.YtkbmkhhcppfcnaaDoor
end
section
set_option linter.unusedVariables false
set_option linter.unusedSimpArgs false
namespace Go.Proofs.YtkbmkhhcppfcnaaDoor
open Go.Al
structure F2 (x : Sub) (n m : Nat) : Prop where
  name : x.name.length ≤ 1000
  topic : x.topic.length ≤ 1000
  want : x.want.length ≤ 1000
  note : x.note.length ≤ 1000
  acks : x.acks.length ≤ n
  queue : x.queue.length ≤ m
  msgs : ∀ m ∈ x.queue, m.body.length ≤ 1000 ∧ m.attr.length ≤ 1000
end Go.Proofs.YtkbmkhhcppfcnaaDoor
end
section
set_option linter.unusedVariables false
set_option linter.unusedSimpArgs false
namespace Go.Proofs.YtkbmkhhcppfcnaaDoor
open Go.Al
def msg1 (v : List UInt8) (seq : Int) : Msg :=
  let p1 := t2 v (0, false) 60
  let p2 := t2 v p1.2 30
  let p3 := n2 v p2.2
  let p4 := n2 v p3.2
  let p5 := n2 v p4.2
  ⟨seq, p1.1, p2.1, p3.1, p4.1, decide ((p5.1 : Int) = 1), [], 0⟩
def sS1 (v : List UInt8) (x : Sub) : Sub :=
  let p1 := t2 v (0, false) 30
  let p2 := t2 v p1.2 30
  let p4 := n2 v p2.2
  let p5 := n2 v p4.2
  let p6 := n2 v p5.2
  { x with name := p1.1, topic := p2.1, lease := p4.1, most := p5.1, floor := p6.1 }
def more1 (v : List UInt8) (seq : Int) : List Msg → Nat × Bool → List Msg
  | [], _ => []
  | m :: l, s => if m.seq = seq then { m with prio := ((n2 v s).1 : Nat), why := whyN (min (n2 v (n2 v s).2).1 2) } :: more1 v seq l (n2 v (n2 v s).2).2 else m :: more1 v seq l s
def tell1 (t : UInt8) (seq : Int) (v : List UInt8) (x : Sub) : Sub :=
  if t = 97 then { x with acks := x.acks ++ [seq] }
  else if t = 110 then { x with note := (t2 v (0, false) 30).1 }
  else if t = 113 then { x with queue := x.queue ++ [msg1 v seq] }
  else if t = 115 then sS1 v x
  else if t = 119 then { x with want := (t2 v (0, false) 30).1 }
  else if t = 120 then { x with queue := more1 v seq x.queue (0, false) }
  else x
def add1 (x : Sub) (r : Row) : Sub := tell1 (parts r.key).t (parts r.key).seq r.val { x with id := (parts r.key).id }
def rows1 (l : List Row) : Sub := l.foldl add1 sub0
def dec1 (l : List Row) : Sub × Nat := if upTo l l.length = true ∧ enc1 (rows1 l) = l then (rows1 l, 0) else (sub0, 11)
theorem more1_len (v : List UInt8) (seq : Int) : ∀ (l : List Msg) (s : Nat × Bool), (more1 v seq l s).length = l.length
  | [], _ => rfl
  | m :: l, s => by rw [more1]; split <;> simp [more1_len v seq l]
theorem more1_mem (v : List UInt8) (seq : Int) : ∀ (l : List Msg) (s : Nat × Bool) (m : Msg), m ∈ more1 v seq l s → ∃ m' ∈ l, m.body = m'.body ∧ m.attr = m'.attr
  | [], s, m, h => by simp [more1] at h
  | a :: l, s, m, h => by
    rw [more1] at h
    split at h
    · rcases List.mem_cons.1 h with rfl | h
      · exact ⟨a, by simp, rfl, rfl⟩
      · obtain ⟨m', h1, h2⟩ := more1_mem v seq l _ m h
        exact ⟨m', by simp [h1], h2⟩
    · rcases List.mem_cons.1 h with rfl | h
      · exact ⟨m, by simp, rfl, rfl⟩
      · obtain ⟨m', h1, h2⟩ := more1_mem v seq l _ m h
        exact ⟨m', by simp [h1], h2⟩
theorem tell1_fit {x : Sub} {n : Nat} (h : F2 x n n) (t : UInt8) (seq : Int) (v : List UInt8) : F2 (tell1 t seq v x) (n + 1) (n + 1) := by
  have ha := h.acks
  have hq := h.queue
  have tl := fun s k => t2_len v s k
  unfold tell1
  split
  · exact ⟨h.name, h.topic, h.want, h.note, by show (x.acks ++ [seq]).length ≤ _; simp; omega, by show x.queue.length ≤ _; omega, h.msgs⟩
  · split
    · exact ⟨h.name, h.topic, h.want, Nat.le_trans (tl _ _) (by decide), by show x.acks.length ≤ _; omega, by show x.queue.length ≤ _; omega, h.msgs⟩
    · split
      · refine ⟨h.name, h.topic, h.want, h.note, by show x.acks.length ≤ _; omega, by show (x.queue ++ _).length ≤ _; simp; omega, fun m hm => ?_⟩
        rcases List.mem_append.1 hm with hm | hm
        · exact h.msgs m hm
        · obtain rfl := List.mem_singleton.1 hm
          exact ⟨Nat.le_trans (tl _ _) (by decide), Nat.le_trans (tl _ _) (by decide)⟩
      · split
        · exact ⟨Nat.le_trans (tl _ _) (by decide), Nat.le_trans (tl _ _) (by decide), h.want, h.note, by show x.acks.length ≤ _; omega, by show x.queue.length ≤ _; omega, h.msgs⟩
        · split
          · exact ⟨h.name, h.topic, Nat.le_trans (tl _ _) (by decide), h.note, by show x.acks.length ≤ _; omega, by show x.queue.length ≤ _; omega, h.msgs⟩
          · split
            · refine ⟨h.name, h.topic, h.want, h.note, by show x.acks.length ≤ _; omega, by show (more1 _ _ _ _).length ≤ _; rw [more1_len]; omega, fun m hm => ?_⟩
              obtain ⟨m', h1, h2, h3⟩ := more1_mem _ _ _ _ m hm
              rw [h2, h3]; exact h.msgs m' h1
            · exact ⟨h.name, h.topic, h.want, h.note, by omega, by omega, h.msgs⟩
theorem rows1_snoc {l : List Row} {i : Nat} {r : Row} (h : l[i]? = some r) : rows1 (l.take (i + 1)) = add1 (rows1 (l.take i)) r := by
  rw [take_snoc h, rows1, List.foldl_append]; rfl
theorem rows1_fit (l : List Row) : ∀ i, i ≤ l.length → F2 (rows1 (l.take i)) i i
  | 0, _ => ⟨by simp [rows1, sub0], by simp [rows1, sub0], by simp [rows1, sub0], by simp [rows1, sub0], by simp [rows1, sub0], by simp [rows1, sub0], by simp [rows1, sub0]⟩
  | i + 1, hi => by
    have h := rows1_fit l i (by omega)
    have hg : l[i]? = some l[i] := by simp [show i < l.length by omega]
    rw [rows1_snoc hg]
    exact tell1_fit (x := { rows1 (l.take i) with id := (parts l[i].key).id }) ⟨h.name, h.topic, h.want, h.note, h.acks, h.queue, h.msgs⟩ _ _ _
theorem rows1_fits (l : List Row) (h : l.length ≤ 100000) : Fits (rows1 l) := by
  have hf := rows1_fit l l.length (Nat.le_refl _)
  rw [List.take_length] at hf
  exact ⟨hf.name, hf.topic, hf.want, hf.note, Nat.le_trans hf.acks h, Nat.le_trans hf.queue h, hf.msgs⟩
end Go.Proofs.YtkbmkhhcppfcnaaDoor
end
section
set_option linter.unusedVariables false
set_option linter.unusedSimpArgs false
set_option maxRecDepth 100000
set_option maxHeartbeats 1000000
namespace Go.Proofs.YtkbmkhhcppfcnaaDoor
open Go.Al Go.RowKit
end Go.Proofs.YtkbmkhhcppfcnaaDoor
end
section
set_option linter.unusedVariables false
set_option linter.unusedSimpArgs false
set_option maxRecDepth 100000
set_option maxHeartbeats 1000000
namespace Go.Proofs.YtkbmkhhcppfcnaaDoor
open Go.Al Go.RowKit
end Go.Proofs.YtkbmkhhcppfcnaaDoor
end
section
set_option linter.unusedVariables false
set_option linter.unusedSimpArgs false
set_option maxRecDepth 100000
set_option maxHeartbeats 1000000
namespace Go.Proofs.YtkbmkhhcppfcnaaDoor
open Go.Al Go.RowKit
def nilOr : List UInt8 → AV
  | [] => .nils
  | c :: r => .slc 1 (aBytes (c :: r)) .no
def rowsOf (x : Sub) (t : UInt8) (f : Msg → List UInt8) (l : List Msg) : List Row := l.flatMap fun m => if f m = [] then [] else [⟨rkey 2 t x.id m.seq, f m⟩]
end Go.Proofs.YtkbmkhhcppfcnaaDoor
end
section
set_option linter.unusedVariables false
set_option linter.unusedSimpArgs false
set_option maxRecDepth 100000
set_option maxHeartbeats 1000000
namespace Go.Proofs.YtkbmkhhcppfcnaaDoor
open Go.Al Go.RowKit
def xN (m : Msg) : List UInt8 := if m.prio ≠ 0 ∨ m.dead = true then xB m else []
end Go.Proofs.YtkbmkhhcppfcnaaDoor
end
section
set_option linter.unusedVariables false
set_option linter.unusedSimpArgs false
set_option maxRecDepth 100000
set_option maxHeartbeats 1000000
namespace Go.Proofs.YtkbmkhhcppfcnaaDoor
open Go.Al Go.RowKit
end Go.Proofs.YtkbmkhhcppfcnaaDoor
end
section
set_option linter.unusedVariables false
set_option linter.unusedSimpArgs false
set_option maxRecDepth 100000
set_option maxHeartbeats 1000000
namespace Go.Proofs.YtkbmkhhcppfcnaaDoor
open Go.Al Go.RowKit
def rd2 (v : List UInt8) (s : Nat × Bool) : List AV := [.slc 1 (aBytes v) .no, .int .i64 (s.1 : Nat), .bool s.2]
end Go.Proofs.YtkbmkhhcppfcnaaDoor
end
section
set_option linter.unusedVariables false
set_option linter.unusedSimpArgs false
set_option maxRecDepth 100000
set_option maxHeartbeats 1000000
namespace Go.Proofs.YtkbmkhhcppfcnaaDoor
open Go.Al Go.RowKit
theorem rnum1_any (w0 : Base) (v : List UInt8) (s : Nat × Bool) (b : Nat) (σ : St) (hv : v.length ≤ 1000000) (ha : s.1 ≤ 1000000) (hb : σ.box b = some (rd2 v s)) :
    CallW Tryd.prog w0 107 [.ptr b 0] σ (fun r s' => r = .int .i64 ((n2 v s).1 : Nat) ∧ s' = σ.setBox b (rd2 v (n2 v s).2)) := by
  obtain ⟨a, bad⟩ := s
  refine CallW.x (B := [(b, rd2 v (a, bad))]) Ty.tok Ty.mixed Tryd.func107 rfl Tryd.ntmps107 rfl (by simp) (by decide +kernel) ⟨by simpa using hb, by simp⟩ ?_
  have hgn := getNum_any w0 v .no a (by omega) (by omega)
  have hn2 : n2 v (a, bad) = if bad = true ∨ (getNum v a).2.2 ≠ 0 then (0, a, true) else ((getNum v a).1, (getNum v a).2.1, false) := rfl
  generalize getNum v a = g at hgn hn2
  obtain ⟨n, k, e⟩ := g
  cases bad with
  | true =>
    rw [hn2, if_pos (.inl rfl)]
    (conv => whnf); refine SReg.d [0, 1, 2, 4, 5, 6, 3, 7, 8, 9, 10, 11, 12, 13, 14, 15] [0, 0, 0, 1, 0, 0, 0, 1, 0, 0, 0, 0, 0, 0, 0, 0] (by decide +kernel) ?_; (conv => whnf); (conv => whnf); refine SLoad.on 0 rfl ?_; (conv => whnf); refine SLoad.on 0 rfl ?_; (conv => whnf); refine SCall.p (by exact hgn) ?_; (conv => whnf); refine SLoad.on 0 rfl ?_; (conv => whnf); refine SCond.y (by exact rfl) ?_; (conv => whnf); refine SCond.y (by exact rfl) ?_; (conv => whnf)
    refine SPick.y (by exact rfl) ?_; (conv => whnf); refine SStore.on 0 rfl ?_; (conv => whnf); refine SLoad.on 0 rfl ?_; (conv => whnf); refine SIf.y Ty.mixed (by exact rfl) ?_; (conv => whnf); exact .p (.refl _) rfl
  | false =>
    by_cases he : e = 0
    · subst he
      rw [hn2, if_neg (by simp)]
      (conv => whnf); refine SReg.d [0, 1, 2, 4, 5, 6, 3, 7, 8, 9, 10, 11, 12, 13, 14, 15] [0, 0, 0, 1, 0, 0, 0, 1, 0, 0, 0, 0, 0, 0, 0, 0] (by decide +kernel) ?_; (conv => whnf); (conv => whnf); refine SLoad.on 0 rfl ?_; (conv => whnf); refine SLoad.on 0 rfl ?_; (conv => whnf); refine SCall.p (by exact hgn) ?_; (conv => whnf); refine SLoad.on 0 rfl ?_; (conv => whnf); refine SCond.n (by exact rfl) ?_; (conv => whnf); refine SCond.n (by exact rfl) ?_; (conv => whnf)
      refine SPick.n (by exact rfl) ?_; (conv => whnf); refine SStore.on 0 rfl ?_; (conv => whnf); refine SLoad.on 0 rfl ?_; (conv => whnf); refine SIf.n Ty.mixed (by exact rfl) ?_; (conv => whnf); refine SStore.on 0 rfl ?_; (conv => whnf)
      rw [setBox_setBox]
      exact .p (.refl _) rfl
    · have hd : (!decide ((e : Int) = 0)) = true := by simp [he]
      rw [hn2, if_pos (.inr he)]
      (conv => whnf); refine SReg.d [0, 1, 2, 4, 5, 6, 3, 7, 8, 9, 10, 11, 12, 13, 14, 15] [0, 0, 0, 1, 0, 0, 0, 1, 0, 0, 0, 0, 0, 0, 0, 0] (by decide +kernel) ?_; (conv => whnf); (conv => whnf); refine SLoad.on 0 rfl ?_; (conv => whnf); refine SLoad.on 0 rfl ?_; (conv => whnf); refine SCall.p (by exact hgn) ?_; (conv => whnf); refine SLoad.on 0 rfl ?_; (conv => whnf); refine SCond.n (by exact rfl) ?_; (conv => whnf); refine SCond.n (by exact rfl) ?_; (conv => whnf)
      refine SPick.n (by exact rfl) ?_; (conv => whnf); refine SStore.on 0 rfl ?_; (conv => whnf); refine SLoad.on 0 rfl ?_; (conv => whnf); refine SIf.y Ty.mixed (by assumption) ?_; (conv => whnf); refine .p ?_ rfl
      show St.Le (σ.setBox b [_, _, .bool true]) (σ.setBox b [_, _, .bool (!decide ((e : Int) = 0))])
      rw [hd]
      exact .refl _
theorem rtext1_any (w0 : Base) (v : List UInt8) (s : Nat × Bool) (most : Nat) (b : Nat) (σ : St) (hv : v.length ≤ 1000000) (ha : s.1 ≤ 1000000) (hm : most ≤ 1000) (hb : σ.box b = some (rd2 v s)) :
    CallW Tryd.prog w0 106 [.ptr b 0, .int .i64 most] σ (fun r s' => r = .str (t2 v s most).1 ∧ s' = σ.setBox b (rd2 v (t2 v s most).2)) := by
  obtain ⟨a, bad⟩ := s
  refine CallW.x (B := [(b, rd2 v (a, bad))]) Ty.tok Ty.mixed Tryd.func106 rfl Tryd.ntmps106 rfl (by simp) (by decide +kernel) ⟨by simpa using hb, by simp⟩ ?_
  have hgn := getText_any w0 v .no a most (by omega) (by omega) (by omega)
  have hn2 : t2 v (a, bad) most = if bad = true ∨ (getText v a most).2.2 ≠ 0 then ([], a, true) else ((getText v a most).1, (getText v a most).2.1, false) := rfl
  generalize getText v a most = g at hgn hn2
  obtain ⟨n, k, e⟩ := g
  cases bad with
  | true =>
    rw [hn2, if_pos (.inl rfl)]
    (conv => whnf); refine SReg.d [0, 1, 2, 4, 5, 6, 8, 3, 7, 9, 10, 11, 12, 13, 14, 15, 16] [0, 0, 0, 1, 0, 0, 0, 1, 0, 0, 0, 0, 0, 0, 0, 0, 0] (by decide +kernel) ?_; (conv => whnf); (conv => whnf); refine SLoad.on 0 rfl ?_; (conv => whnf); refine SLoad.on 0 rfl ?_; (conv => whnf); refine SCall.p (by exact hgn) ?_; (conv => whnf); refine SLoad.on 0 rfl ?_; (conv => whnf); refine SCond.y (by exact rfl) ?_; (conv => whnf); refine SCond.y (by exact rfl) ?_; (conv => whnf)
    refine SPick.y (by exact rfl) ?_; (conv => whnf); refine SStore.on 0 rfl ?_; (conv => whnf); refine SLoad.on 0 rfl ?_; (conv => whnf); refine SIf.y Ty.mixed (by exact rfl) ?_; (conv => whnf); exact .p (.refl _) rfl
  | false =>
    by_cases he : e = 0
    · subst he
      rw [hn2, if_neg (by simp)]
      (conv => whnf); refine SReg.d [0, 1, 2, 4, 5, 6, 8, 3, 7, 9, 10, 11, 12, 13, 14, 15, 16] [0, 0, 0, 1, 0, 0, 0, 1, 0, 0, 0, 0, 0, 0, 0, 0, 0] (by decide +kernel) ?_; (conv => whnf); (conv => whnf); refine SLoad.on 0 rfl ?_; (conv => whnf); refine SLoad.on 0 rfl ?_; (conv => whnf); refine SCall.p (by exact hgn) ?_; (conv => whnf); refine SLoad.on 0 rfl ?_; (conv => whnf); refine SCond.n (by exact rfl) ?_; (conv => whnf); refine SCond.n (by exact rfl) ?_; (conv => whnf)
      refine SPick.n (by exact rfl) ?_; (conv => whnf); refine SStore.on 0 rfl ?_; (conv => whnf); refine SLoad.on 0 rfl ?_; (conv => whnf); refine SIf.n Ty.mixed (by exact rfl) ?_; (conv => whnf); refine SStore.on 0 rfl ?_; (conv => whnf)
      rw [setBox_setBox]
      exact .p (.refl _) rfl
    · have hd : (!decide ((e : Int) = 0)) = true := by simp [he]
      rw [hn2, if_pos (.inr he)]
      (conv => whnf); refine SReg.d [0, 1, 2, 4, 5, 6, 8, 3, 7, 9, 10, 11, 12, 13, 14, 15, 16] [0, 0, 0, 1, 0, 0, 0, 1, 0, 0, 0, 0, 0, 0, 0, 0, 0] (by decide +kernel) ?_; (conv => whnf); (conv => whnf); refine SLoad.on 0 rfl ?_; (conv => whnf); refine SLoad.on 0 rfl ?_; (conv => whnf); refine SCall.p (by exact hgn) ?_; (conv => whnf); refine SLoad.on 0 rfl ?_; (conv => whnf); refine SCond.n (by exact rfl) ?_; (conv => whnf); refine SCond.n (by exact rfl) ?_; (conv => whnf)
      refine SPick.n (by exact rfl) ?_; (conv => whnf); refine SStore.on 0 rfl ?_; (conv => whnf); refine SLoad.on 0 rfl ?_; (conv => whnf); refine SIf.y Ty.mixed (by assumption) ?_; (conv => whnf); refine .p ?_ rfl
      show St.Le (σ.setBox b [_, _, .bool true]) (σ.setBox b [_, _, .bool (!decide ((e : Int) = 0))])
      rw [hd]
      exact .refl _
end Go.Proofs.YtkbmkhhcppfcnaaDoor
end
section
set_option linter.unusedVariables false
set_option linter.unusedSimpArgs false
set_option maxRecDepth 100000
set_option maxHeartbeats 1000000
namespace Go.Proofs.YtkbmkhhcppfcnaaDoor
open Go.Al Go.RowKit
def mc (m : Msg) : List AV := [.int .i64 m.seq, .str m.body, .str m.attr, .int .i64 m.tries, .int .i64 m.until_, .bool m.dead, .str m.why, .int .i64 m.prio]
def MsgW (w0 : Base) (f : FuncId) (g : List UInt8 → Msg → Msg) : Prop := ∀ (v : List UInt8) (m : Msg) (bx bm br : Nat) (pre post : List AV) (σ : St), v.length ≤ 1000000 → σ.box bm = some (pre ++ mc m ++ post) → σ.box br = some (rd2 v (0, false)) → bm ≠ br →
  CallW Tryd.prog w0 f [.ptr bx 0, .ptr bm pre.length, .ptr br 0] σ (fun r s => r = .tup [] ∧ ∃ s', s = (σ.setBox br (rd2 v s')).setBox bm (pre ++ mc (g v m) ++ post))
def xc (x : Sub) (ac qv : AV) : List AV := [.int .i64 x.id, .str x.name, .str x.topic, .str x.want, .int .i64 x.lease, .int .i64 x.most, .int .i64 x.floor, ac, qv, .str x.note]
end Go.Proofs.YtkbmkhhcppfcnaaDoor
end
