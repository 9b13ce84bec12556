/- The law StateRights returns true for every input, and its arguments read as before: the tied card. No conditions. This is part 4 of 7 of its proof; the parts are read in order. No conditions. -/
import Derived.Test.YtgliemhhnkhboaaGreatDoorCStateRightsP3
import Derived.Shelf.LaysM
import Derived.Shelf.Strconv.Itoa3
import Derived.Shelf.LaysC
import Derived.Shelf.Strconv.AtoiAll
import Derived.Shelf.Strings.Search2
import Derived.Shelf.Strings.Prefix
import Derived.Shelf.Strings.Split
import Derived.Shelf.Strings.Repeat
import Derived.Test.YtgliemhhnkhboaaGreatDoorProg
import Derived.Lib.ItoaNum
import Derived.Lib.Atoi
import Derived.Lib.Repeat
import Derived.Lib.AppendIntMem
import Derived.Lib.AtoiErrMem
import Derived.Lib.AtoiTie
import Derived.Laws.RangeAny
import Derived.Lib.Bytealg
section
namespace Go.Proofs
open Go.Shelf
open Go.RowKit Go.Sort Go.Lib in
open Go.RowKit Go.Sort Go.Lib in
open Go.RowKit Go.Sort Go.Lib in
open Go.RowKit Go.Sort Go.Lib in
def Tryz.laysM171_ren : Go.Shelf.Ren := ⟨fun | 171 => 63 | 243 => 81 | 246 => 102 | 283 => 116 | 284 => 117 | 285 => 118 | 286 => 119 | 129 => 130 | 317 => 129 | 318 => 131 | 319 => 132 | 320 => 133 | 337 => 138 | 338 => 139 | n => n, fun | 3 => 3 | 9 => 9 | 2 => 2 | 4 => 4 | 171 => 136 | 0 => 0 | 53 => 115 | 37 => 25 | 5 => 5 | 173 => 139 | 212 => 148 | 51 => 123 | 20 => 20 | 213 => 149 | 46 => 98 | 232 => 158 | 233 => 159 | n => n, fun | 17 => 3 | 18 => 6 | 19 => 7 | n => n⟩
theorem Tryz.laysM171 : Go.Proofs.LaysM.n171 Tryz.prog Tryz.laysM171_ren := {
  mixed := by kernel_rfl
  f129 := Tryz.func130.trans (congrArg some (by kernel_rfl))
  f171 := Tryz.func63.trans (congrArg some (by kernel_rfl))
  f243 := Tryz.func81.trans (congrArg some (by kernel_rfl))
  f246 := Tryz.func102.trans (congrArg some (by kernel_rfl))
  f283 := Tryz.func116.trans (congrArg some (by kernel_rfl))
  f284 := Tryz.func117.trans (congrArg some (by kernel_rfl))
  f285 := Tryz.func118.trans (congrArg some (by kernel_rfl))
  f286 := Tryz.func119.trans (congrArg some (by kernel_rfl))
  f317 := Tryz.func129.trans (congrArg some (by kernel_rfl))
  f318 := Tryz.func131.trans (congrArg some (by kernel_rfl))
  f319 := Tryz.func132.trans (congrArg some (by kernel_rfl))
  f320 := Tryz.func133.trans (congrArg some (by kernel_rfl))
  f337 := Tryz.func138.trans (congrArg some (by kernel_rfl))
  f338 := Tryz.func139.trans (congrArg some (by kernel_rfl))
  t0 := Tryz.underlying0
  a0 := Tryz.isAgg0
  z0 := Tryz.sizeOf0
  v0 := Tryz.zeroValue0
  t2 := Tryz.underlying2
  a2 := Tryz.isAgg2
  z2 := Tryz.sizeOf2
  v2 := Tryz.zeroValue2
  t3 := Tryz.underlying3
  a3 := Tryz.isAgg3
  z3 := Tryz.sizeOf3
  v3 := Tryz.zeroValue3
  t4 := Tryz.underlying4
  a4 := Tryz.isAgg4
  z4 := Tryz.sizeOf4
  v4 := Tryz.zeroValue4
  t5 := Tryz.underlying5
  a5 := Tryz.isAgg5
  z5 := Tryz.sizeOf5
  v5 := Tryz.zeroValue5
  t9 := Tryz.underlying9
  a9 := Tryz.isAgg9
  z9 := Tryz.sizeOf9
  v9 := Tryz.zeroValue9
  t20 := Tryz.underlying20
  a20 := Tryz.isAgg20
  z20 := Tryz.sizeOf20
  v20 := Tryz.zeroValue20
  t37 := Tryz.underlying25
  a37 := Tryz.isAgg25
  z37 := Tryz.sizeOf25
  v37 := Tryz.zeroValue25
  t46 := Tryz.underlying98
  a46 := Tryz.isAgg98
  z46 := Tryz.sizeOf98
  v46 := Tryz.zeroValue98
  t51 := Tryz.underlying123
  a51 := Tryz.isAgg123
  z51 := Tryz.sizeOf123
  v51 := Tryz.zeroValue123
  t53 := Tryz.underlying115
  a53 := Tryz.isAgg115
  z53 := Tryz.sizeOf115
  v53 := Tryz.zeroValue115
  t171 := Tryz.underlying136
  a171 := Tryz.isAgg136
  z171 := Tryz.sizeOf136
  v171 := Tryz.zeroValue136
  t173 := Tryz.underlying139
  a173 := Tryz.isAgg139
  z173 := Tryz.sizeOf139
  v173 := Tryz.zeroValue139
  t212 := Tryz.underlying148
  a212 := Tryz.isAgg148
  z212 := Tryz.sizeOf148
  v212 := Tryz.zeroValue148
  t213 := Tryz.underlying149
  a213 := Tryz.isAgg149
  z213 := Tryz.sizeOf149
  t232 := Tryz.underlying158
  a232 := Tryz.isAgg158
  z232 := Tryz.sizeOf158
  v232 := Tryz.zeroValue158
  t233 := Tryz.underlying159
  a233 := Tryz.isAgg159
  z233 := Tryz.sizeOf159
  v233 := Tryz.zeroValue159
  g17 := by kernel_rfl
  g18 := by kernel_rfl
  g19 := by kernel_rfl
  i0 := by kernel_rfl
  i2 := by kernel_rfl
  i3 := by kernel_rfl
  i4 := by kernel_rfl
  i5 := by kernel_rfl
  i9 := by kernel_rfl
  i20 := by kernel_rfl
  i37 := by kernel_rfl
  i46 := by kernel_rfl
  i51 := by kernel_rfl
  i53 := by kernel_rfl
  i171 := by kernel_rfl
  i173 := by kernel_rfl
  i212 := by kernel_rfl
  i232 := by kernel_rfl
  i233 := by kernel_rfl
  m17 := by kernel_rfl
  m18 := by kernel_rfl
  m19 := by kernel_rfl }
open Go.RowKit Go.Sort Go.Lib in
theorem Tryz.strconv_Itoa (n : Int) (h0 : -9223372036854775808 ≤ n) (h1 : n ≤ 9223372036854775807) (w : World) (htab : Lib.TabIs Tryz.prog w "internal/strconv.uint64pow10" .u64 Lib.pow10Tab) :
    Calls Tryz.prog 63 #[.int .i64 n] w fun e w' => e = .returned (.string ⟨(Lib.itoa n).toArray⟩) ∧ ∃ k os, w' = grow (w.drewN k) os := Any.strconv_Itoa Tryz.laysM171 n h0 h1 w htab
open Go.RowKit Go.Sort Go.Lib in
def Tryz.laysC172_ren : Go.Shelf.Ren := ⟨fun | 172 => 44 | 244 => 61 | 245 => 62 | 247 => 76 | 279 => 77 | 280 => 78 | 281 => 79 | 282 => 80 | 287 => 99 | 316 => 100 | 171 => 63 | 205 => 101 | 321 => 114 | 322 => 115 | 243 => 81 | 246 => 102 | 283 => 116 | 284 => 117 | 285 => 118 | 286 => 119 | 129 => 130 | 317 => 129 | 318 => 131 | 319 => 132 | 320 => 133 | 337 => 138 | 338 => 139 | n => n, fun | 9 => 9 | 3 => 3 | 75 => 69 | 76 => 70 | 4 => 4 | 5 => 5 | 167 => 92 | 37 => 25 | 0 => 0 | 85 => 93 | 2 => 2 | 168 => 95 | 53 => 115 | 175 => 116 | 46 => 98 | 210 => 120 | 127 => 128 | 145 => 135 | 143 => 133 | 21 => 21 | 171 => 136 | 173 => 139 | 212 => 148 | 51 => 123 | 20 => 20 | 213 => 149 | 232 => 158 | 233 => 159 | 80 => 106 | n => n, fun | 15 => 0 | 16 => 1 | 17 => 3 | 18 => 6 | 19 => 7 | n => n⟩
theorem Tryz.laysC172 : Go.Proofs.LaysC.n172 Tryz.prog Tryz.laysC172_ren := {
  mixed := by kernel_rfl
  f129 := Tryz.func130.trans (congrArg some (by kernel_rfl))
  f171 := Tryz.func63.trans (congrArg some (by kernel_rfl))
  f172 := Tryz.func44.trans (congrArg some (by kernel_rfl))
  f205 := Tryz.func101.trans (congrArg some (by kernel_rfl))
  f243 := Tryz.func81.trans (congrArg some (by kernel_rfl))
  f244 := Tryz.func61.trans (congrArg some (by kernel_rfl))
  f245 := Tryz.func62.trans (congrArg some (by kernel_rfl))
  f246 := Tryz.func102.trans (congrArg some (by kernel_rfl))
  f247 := Tryz.func76.trans (congrArg some (by kernel_rfl))
  f279 := Tryz.func77.trans (congrArg some (by kernel_rfl))
  f280 := Tryz.func78.trans (congrArg some (by kernel_rfl))
  f281 := Tryz.func79.trans (congrArg some (by kernel_rfl))
  f282 := Tryz.func80.trans (congrArg some (by kernel_rfl))
  f283 := Tryz.func116.trans (congrArg some (by kernel_rfl))
  f284 := Tryz.func117.trans (congrArg some (by kernel_rfl))
  f285 := Tryz.func118.trans (congrArg some (by kernel_rfl))
  f286 := Tryz.func119.trans (congrArg some (by kernel_rfl))
  f287 := Tryz.func99.trans (congrArg some (by kernel_rfl))
  f316 := Tryz.func100.trans (congrArg some (by kernel_rfl))
  f317 := Tryz.func129.trans (congrArg some (by kernel_rfl))
  f318 := Tryz.func131.trans (congrArg some (by kernel_rfl))
  f319 := Tryz.func132.trans (congrArg some (by kernel_rfl))
  f320 := Tryz.func133.trans (congrArg some (by kernel_rfl))
  f321 := Tryz.func114.trans (congrArg some (by kernel_rfl))
  f322 := Tryz.func115.trans (congrArg some (by kernel_rfl))
  f337 := Tryz.func138.trans (congrArg some (by kernel_rfl))
  f338 := Tryz.func139.trans (congrArg some (by kernel_rfl))
  t0 := Tryz.underlying0
  a0 := Tryz.isAgg0
  z0 := Tryz.sizeOf0
  v0 := Tryz.zeroValue0
  t2 := Tryz.underlying2
  a2 := Tryz.isAgg2
  z2 := Tryz.sizeOf2
  v2 := Tryz.zeroValue2
  t3 := Tryz.underlying3
  a3 := Tryz.isAgg3
  z3 := Tryz.sizeOf3
  v3 := Tryz.zeroValue3
  t4 := Tryz.underlying4
  a4 := Tryz.isAgg4
  z4 := Tryz.sizeOf4
  v4 := Tryz.zeroValue4
  t5 := Tryz.underlying5
  a5 := Tryz.isAgg5
  z5 := Tryz.sizeOf5
  v5 := Tryz.zeroValue5
  t9 := Tryz.underlying9
  a9 := Tryz.isAgg9
  z9 := Tryz.sizeOf9
  v9 := Tryz.zeroValue9
  t20 := Tryz.underlying20
  a20 := Tryz.isAgg20
  z20 := Tryz.sizeOf20
  v20 := Tryz.zeroValue20
  t21 := Tryz.underlying21
  a21 := Tryz.isAgg21
  z21 := Tryz.sizeOf21
  v21 := Tryz.zeroValue21
  t37 := Tryz.underlying25
  a37 := Tryz.isAgg25
  z37 := Tryz.sizeOf25
  v37 := Tryz.zeroValue25
  t46 := Tryz.underlying98
  a46 := Tryz.isAgg98
  z46 := Tryz.sizeOf98
  v46 := Tryz.zeroValue98
  t51 := Tryz.underlying123
  a51 := Tryz.isAgg123
  z51 := Tryz.sizeOf123
  v51 := Tryz.zeroValue123
  t53 := Tryz.underlying115
  a53 := Tryz.isAgg115
  z53 := Tryz.sizeOf115
  v53 := Tryz.zeroValue115
  t75 := Tryz.underlying69
  a75 := Tryz.isAgg69
  z75 := Tryz.sizeOf69
  v75 := Tryz.zeroValue69
  t76 := Tryz.underlying70
  a76 := Tryz.isAgg70
  z76 := Tryz.sizeOf70
  v76 := Tryz.zeroValue70
  t85 := Tryz.underlying93
  a85 := Tryz.isAgg93
  z85 := Tryz.sizeOf93
  v85 := Tryz.zeroValue93
  t127 := Tryz.underlying128
  a127 := Tryz.isAgg128
  z127 := Tryz.sizeOf128
  v127 := Tryz.zeroValue128
  t143 := Tryz.underlying133
  a143 := Tryz.isAgg133
  z143 := Tryz.sizeOf133
  v143 := Tryz.zeroValue133
  t145 := Tryz.underlying135
  a145 := Tryz.isAgg135
  z145 := Tryz.sizeOf135
  v145 := Tryz.zeroValue135
  t167 := Tryz.underlying92
  a167 := Tryz.isAgg92
  z167 := Tryz.sizeOf92
  v167 := Tryz.zeroValue92
  t168 := Tryz.underlying95
  a168 := Tryz.isAgg95
  z168 := Tryz.sizeOf95
  v168 := Tryz.zeroValue95
  t171 := Tryz.underlying136
  a171 := Tryz.isAgg136
  z171 := Tryz.sizeOf136
  v171 := Tryz.zeroValue136
  t173 := Tryz.underlying139
  a173 := Tryz.isAgg139
  z173 := Tryz.sizeOf139
  v173 := Tryz.zeroValue139
  t175 := Tryz.underlying116
  a175 := Tryz.isAgg116
  z175 := Tryz.sizeOf116
  v175 := Tryz.zeroValue116
  t210 := Tryz.underlying120
  a210 := Tryz.isAgg120
  z210 := Tryz.sizeOf120
  v210 := Tryz.zeroValue120
  t212 := Tryz.underlying148
  a212 := Tryz.isAgg148
  z212 := Tryz.sizeOf148
  v212 := Tryz.zeroValue148
  t213 := Tryz.underlying149
  a213 := Tryz.isAgg149
  z213 := Tryz.sizeOf149
  t232 := Tryz.underlying158
  a232 := Tryz.isAgg158
  z232 := Tryz.sizeOf158
  v232 := Tryz.zeroValue158
  t233 := Tryz.underlying159
  a233 := Tryz.isAgg159
  z233 := Tryz.sizeOf159
  v233 := Tryz.zeroValue159
  g15 := by kernel_rfl
  g16 := by kernel_rfl
  g17 := by kernel_rfl
  g18 := by kernel_rfl
  g19 := by kernel_rfl
  t80 := Tryz.underlying106
  a80 := Tryz.isAgg106
  z80 := Tryz.sizeOf106
  v80 := Tryz.zeroValue106
  i0 := by kernel_rfl
  i2 := by kernel_rfl
  i3 := by kernel_rfl
  i4 := by kernel_rfl
  i5 := by kernel_rfl
  i9 := by kernel_rfl
  i20 := by kernel_rfl
  i21 := by kernel_rfl
  i37 := by kernel_rfl
  i46 := by kernel_rfl
  i51 := by kernel_rfl
  i53 := by kernel_rfl
  i75 := by kernel_rfl
  i76 := by kernel_rfl
  i80 := by kernel_rfl
  i85 := by kernel_rfl
  i127 := by kernel_rfl
  i143 := by kernel_rfl
  i145 := by kernel_rfl
  i167 := by kernel_rfl
  i168 := by kernel_rfl
  i171 := by kernel_rfl
  i173 := by kernel_rfl
  i175 := by kernel_rfl
  i210 := by kernel_rfl
  i212 := by kernel_rfl
  i232 := by kernel_rfl
  i233 := by kernel_rfl
  m15 := by kernel_rfl
  m16 := by kernel_rfl
  m17 := by kernel_rfl
  m18 := by kernel_rfl
  m19 := by kernel_rfl
  c0 := by kernel_rfl
  c2 := by kernel_rfl
  c3 := by kernel_rfl
  c4 := by kernel_rfl
  c5 := by kernel_rfl
  c9 := by kernel_rfl
  c20 := by kernel_rfl
  c21 := by kernel_rfl
  c37 := by kernel_rfl
  c46 := by kernel_rfl
  c51 := by kernel_rfl
  c53 := by kernel_rfl
  c75 := by kernel_rfl
  c76 := by kernel_rfl
  c80 := by kernel_rfl
  c85 := by kernel_rfl
  c127 := by kernel_rfl
  c143 := by kernel_rfl
  c145 := by kernel_rfl
  c167 := by kernel_rfl
  c168 := by kernel_rfl
  c171 := by kernel_rfl
  c173 := by kernel_rfl
  c175 := by kernel_rfl
  c210 := by kernel_rfl
  c212 := by kernel_rfl
  c213 := by kernel_rfl
  c232 := by kernel_rfl
  c233 := by kernel_rfl }
open Go.RowKit in
theorem Tryz.strconv_Atoi_ok (s : ByteArray) (hmax : s.size ≤ 9223372036854775806) (v : Int) (h : Lib.atoiAll s.data.toList = .ok v) (w : World) :
    Calls Tryz.prog 44 #[.string s] w fun e w' => e = .returned (.tuple #[.int .i64 v, .nilIface]) ∧ (w' = w ∨ ∃ t, w' = Lib.bytesWorld w 5 t) := Any.strconv_Atoi_ok Tryz.laysC172 s hmax v h w
open Go.RowKit in
open Go.RowKit in
theorem Tryz.strconv_Atoi_range (s : ByteArray) (hlim : s.size ≤ 281474976710656) (h : Lib.atoiAll s.data.toList = .range) (ev : Value) (w : World) (hv : w.cell? ⟨1, 0, none⟩ = some ev) (hev : ev = .nilIface ∨ ∃ te pe, ev = .iface te pe) :
    Calls Tryz.prog 44 #[.string s] w fun e w' => ∃ N, e = .returned (.tuple #[.int .i64 (Lib.atoiSat s.data.toList), .iface 95 (.pointer (some ⟨N, 0, none⟩))]) ∧ w.heap.size ≤ N ∧ w'.heap[N]? = some (.cells #[.string ⟨#[65, 116, 111, 105]⟩, .string s, ev] 120 (0, 0)) ∧ Below w.heap.size w w' := Any.strconv_Atoi_range Tryz.laysC172 s hlim h ev w hv hev
def Tryz.lays219_ren : Go.Shelf.Ren := ⟨fun | 219 => 108 | 217 => 122 | 225 => 123 | 224 => 124 | 267 => 125 | 266 => 134 | 314 => 135 | n => n, fun | 9 => 9 | 3 => 3 | 4 => 4 | 5 => 5 | 46 => 98 | 146 => 124 | 51 => 123 | n => n, fun | 1 => 2 | n => n⟩
theorem Tryz.lays219 : Go.Proofs.Lays.n219 Tryz.prog Tryz.lays219_ren := {
  mixed := by kernel_rfl
  f217 := Tryz.func122.trans (congrArg some (by kernel_rfl))
  f219 := Tryz.func108.trans (congrArg some (by kernel_rfl))
  f224 := Tryz.func124.trans (congrArg some (by kernel_rfl))
  f225 := Tryz.func123.trans (congrArg some (by kernel_rfl))
  f266 := Tryz.func134.trans (congrArg some (by kernel_rfl))
  f267 := Tryz.func125.trans (congrArg some (by kernel_rfl))
  f314 := Tryz.func135.trans (congrArg some (by kernel_rfl))
  t3 := Tryz.underlying3
  a3 := Tryz.isAgg3
  z3 := Tryz.sizeOf3
  v3 := Tryz.zeroValue3
  t4 := Tryz.underlying4
  a4 := Tryz.isAgg4
  z4 := Tryz.sizeOf4
  v4 := Tryz.zeroValue4
  t5 := Tryz.underlying5
  a5 := Tryz.isAgg5
  z5 := Tryz.sizeOf5
  v5 := Tryz.zeroValue5
  t9 := Tryz.underlying9
  a9 := Tryz.isAgg9
  z9 := Tryz.sizeOf9
  v9 := Tryz.zeroValue9
  t46 := Tryz.underlying98
  a46 := Tryz.isAgg98
  z46 := Tryz.sizeOf98
  v46 := Tryz.zeroValue98
  t51 := Tryz.underlying123
  a51 := Tryz.isAgg123
  z51 := Tryz.sizeOf123
  v51 := Tryz.zeroValue123
  t146 := Tryz.underlying124
  a146 := Tryz.isAgg124
  z146 := Tryz.sizeOf124
  v146 := Tryz.zeroValue124
  g1 := by kernel_rfl }
open Go.RowKit Go.Lib in
theorem Tryz.stringslite_Index_one (s : ByteArray) (c : UInt8) (w : World) :
    Calls Tryz.prog 108 #[.string s, .string ⟨#[c]⟩] w fun e w' => e = .returned (.int .i64 (Lib.indexByte s.data.toList c)) ∧ w' = w := Any.stringslite_Index_one Tryz.lays219 s c w
open Go.RowKit Go.Lib in
open Go.RowKit Go.Lib in
def Tryz.lays99_ren : Go.Shelf.Ren := ⟨fun | 99 => 83 | 206 => 105 | n => n, fun | 9 => 9 | 4 => 4 | 3 => 3 | n => n, fun | n => n⟩
open Go.RowKit Go.Lib in
open Go.RowKit Go.Lib in
open Go.RowKit Go.Lib in
def Tryz.lays102_ren : Go.Shelf.Ren := ⟨fun | 102 => 71 | 209 => 95 | 207 => 109 | n => n, fun | 9 => 9 | 4 => 4 | 3 => 3 | n => n, fun | n => n⟩
theorem Tryz.lays102 : Go.Proofs.Lays.n102 Tryz.prog Tryz.lays102_ren := {
  mixed := by kernel_rfl
  f102 := Tryz.func71.trans (congrArg some (by kernel_rfl))
  f207 := Tryz.func109.trans (congrArg some (by kernel_rfl))
  f209 := Tryz.func95.trans (congrArg some (by kernel_rfl))
  t3 := Tryz.underlying3
  a3 := Tryz.isAgg3
  z3 := Tryz.sizeOf3
  v3 := Tryz.zeroValue3
  t4 := Tryz.underlying4
  a4 := Tryz.isAgg4
  z4 := Tryz.sizeOf4
  v4 := Tryz.zeroValue4
  t9 := Tryz.underlying9
  a9 := Tryz.isAgg9
  z9 := Tryz.sizeOf9
  v9 := Tryz.zeroValue9 }
open Go.RowKit Go.Lib in
theorem Tryz.strings_TrimSuffix (s p : ByteArray) (w : World) (hs : s.size ≤ 9223372036854775807) :
    Calls Tryz.prog 71 #[.string s, .string p] w fun e w' => e = .returned (.string ⟨(Lib.trimSuffix s.data.toList p.data.toList).toArray⟩) ∧ w' = w := Any.strings_TrimSuffix Tryz.lays102 s p w hs
open Go.RowKit Go.Lib in
open Go.RowKit Go.Lib in
def Tryz.lays146_ren : Go.Shelf.Ren := ⟨fun | 146 => 97 | 221 => 112 | 268 => 127 | 138 => 128 | 143 => 94 | 195 => 136 | 197 => 111 | 218 => 137 | 219 => 108 | 260 => 126 | 217 => 122 | 225 => 123 | 224 => 124 | 267 => 125 | 266 => 134 | 314 => 135 | n => n, fun | 9 => 9 | 31 => 56 | 3 => 3 | 4 => 4 | 0 => 0 | 105 => 129 | 21 => 21 | 5 => 5 | 46 => 98 | 119 => 152 | 139 => 155 | 138 => 154 | 146 => 124 | 51 => 123 | n => n, fun | 1 => 2 | 3 => 4 | 4 => 5 | n => n⟩
theorem Tryz.lays146 : Go.Proofs.Lays.n146 Tryz.prog Tryz.lays146_ren := {
  mixed := by kernel_rfl
  f138 := Tryz.func128.trans (congrArg some (by kernel_rfl))
  f143 := Tryz.func94.trans (congrArg some (by kernel_rfl))
  f146 := Tryz.func97.trans (congrArg some (by kernel_rfl))
  f195 := Tryz.func136.trans (congrArg some (by kernel_rfl))
  f197 := Tryz.func111.trans (congrArg some (by kernel_rfl))
  f217 := Tryz.func122.trans (congrArg some (by kernel_rfl))
  f218 := Tryz.func137.trans (congrArg some (by kernel_rfl))
  f219 := Tryz.func108.trans (congrArg some (by kernel_rfl))
  f221 := Tryz.func112.trans (congrArg some (by kernel_rfl))
  f224 := Tryz.func124.trans (congrArg some (by kernel_rfl))
  f225 := Tryz.func123.trans (congrArg some (by kernel_rfl))
  f260 := Tryz.func126.trans (congrArg some (by kernel_rfl))
  f266 := Tryz.func134.trans (congrArg some (by kernel_rfl))
  f267 := Tryz.func125.trans (congrArg some (by kernel_rfl))
  f268 := Tryz.func127.trans (congrArg some (by kernel_rfl))
  f314 := Tryz.func135.trans (congrArg some (by kernel_rfl))
  t0 := Tryz.underlying0
  a0 := Tryz.isAgg0
  z0 := Tryz.sizeOf0
  v0 := Tryz.zeroValue0
  t3 := Tryz.underlying3
  a3 := Tryz.isAgg3
  z3 := Tryz.sizeOf3
  v3 := Tryz.zeroValue3
  t4 := Tryz.underlying4
  a4 := Tryz.isAgg4
  z4 := Tryz.sizeOf4
  v4 := Tryz.zeroValue4
  t5 := Tryz.underlying5
  a5 := Tryz.isAgg5
  z5 := Tryz.sizeOf5
  v5 := Tryz.zeroValue5
  t9 := Tryz.underlying9
  a9 := Tryz.isAgg9
  z9 := Tryz.sizeOf9
  v9 := Tryz.zeroValue9
  t21 := Tryz.underlying21
  a21 := Tryz.isAgg21
  z21 := Tryz.sizeOf21
  v21 := Tryz.zeroValue21
  t31 := Tryz.underlying56
  a31 := Tryz.isAgg56
  z31 := Tryz.sizeOf56
  v31 := Tryz.zeroValue56
  t46 := Tryz.underlying98
  a46 := Tryz.isAgg98
  z46 := Tryz.sizeOf98
  v46 := Tryz.zeroValue98
  t51 := Tryz.underlying123
  a51 := Tryz.isAgg123
  z51 := Tryz.sizeOf123
  v51 := Tryz.zeroValue123
  t105 := Tryz.underlying129
  a105 := Tryz.isAgg129
  z105 := Tryz.sizeOf129
  v105 := Tryz.zeroValue129
  t119 := Tryz.underlying152
  a119 := Tryz.isAgg152
  z119 := Tryz.sizeOf152
  t138 := Tryz.underlying154
  a138 := Tryz.isAgg154
  z138 := Tryz.sizeOf154
  v138 := Tryz.zeroValue154
  t139 := Tryz.underlying155
  a139 := Tryz.isAgg155
  z139 := Tryz.sizeOf155
  v139 := Tryz.zeroValue155
  t146 := Tryz.underlying124
  a146 := Tryz.isAgg124
  z146 := Tryz.sizeOf124
  v146 := Tryz.zeroValue124
  g1 := by kernel_rfl
  g3 := by kernel_rfl
  g4 := by kernel_rfl }
open Go.RowKit Go.Lib in
def Tryz.lays105_ren : Go.Shelf.Ren := ⟨fun | 105 => 64 | 212 => 82 | 99 => 83 | 165 => 84 | 166 => 85 | 170 => 86 | 169 => 87 | 263 => 103 | 264 => 104 | 206 => 105 | 240 => 106 | 241 => 107 | 276 => 120 | 277 => 121 | n => n, fun | 9 => 9 | 3 => 3 | 4 => 4 | 20 => 20 | 0 => 0 | 46 => 98 | 109 => 99 | 5 => 5 | 72 => 103 | 76 => 70 | 51 => 123 | 146 => 124 | 53 => 115 | 148 => 126 | 70 => 101 | 37 => 25 | 75 => 69 | 127 => 128 | 164 => 141 | 80 => 106 | n => n, fun | n => n⟩
theorem Tryz.lays105 : Go.Proofs.Lays.n105 Tryz.prog Tryz.lays105_ren := {
  mixed := by kernel_rfl
  f99 := Tryz.func83.trans (congrArg some (by kernel_rfl))
  f105 := Tryz.func64.trans (congrArg some (by kernel_rfl))
  f165 := Tryz.func84.trans (congrArg some (by kernel_rfl))
  f166 := Tryz.func85.trans (congrArg some (by kernel_rfl))
  f169 := Tryz.func87.trans (congrArg some (by kernel_rfl))
  f170 := Tryz.func86.trans (congrArg some (by kernel_rfl))
  f206 := Tryz.func105.trans (congrArg some (by kernel_rfl))
  f212 := Tryz.func82.trans (congrArg some (by kernel_rfl))
  f240 := Tryz.func106.trans (congrArg some (by kernel_rfl))
  f241 := Tryz.func107.trans (congrArg some (by kernel_rfl))
  f263 := Tryz.func103.trans (congrArg some (by kernel_rfl))
  f264 := Tryz.func104.trans (congrArg some (by kernel_rfl))
  f276 := Tryz.func120.trans (congrArg some (by kernel_rfl))
  f277 := Tryz.func121.trans (congrArg some (by kernel_rfl))
  t0 := Tryz.underlying0
  a0 := Tryz.isAgg0
  z0 := Tryz.sizeOf0
  v0 := Tryz.zeroValue0
  t3 := Tryz.underlying3
  a3 := Tryz.isAgg3
  z3 := Tryz.sizeOf3
  v3 := Tryz.zeroValue3
  t4 := Tryz.underlying4
  a4 := Tryz.isAgg4
  z4 := Tryz.sizeOf4
  v4 := Tryz.zeroValue4
  t5 := Tryz.underlying5
  a5 := Tryz.isAgg5
  z5 := Tryz.sizeOf5
  v5 := Tryz.zeroValue5
  t9 := Tryz.underlying9
  a9 := Tryz.isAgg9
  z9 := Tryz.sizeOf9
  v9 := Tryz.zeroValue9
  t20 := Tryz.underlying20
  a20 := Tryz.isAgg20
  z20 := Tryz.sizeOf20
  v20 := Tryz.zeroValue20
  t37 := Tryz.underlying25
  a37 := Tryz.isAgg25
  z37 := Tryz.sizeOf25
  v37 := Tryz.zeroValue25
  t46 := Tryz.underlying98
  a46 := Tryz.isAgg98
  z46 := Tryz.sizeOf98
  v46 := Tryz.zeroValue98
  t51 := Tryz.underlying123
  a51 := Tryz.isAgg123
  z51 := Tryz.sizeOf123
  v51 := Tryz.zeroValue123
  t53 := Tryz.underlying115
  a53 := Tryz.isAgg115
  z53 := Tryz.sizeOf115
  v53 := Tryz.zeroValue115
  t70 := Tryz.underlying101
  a70 := Tryz.isAgg101
  z70 := Tryz.sizeOf101
  v70 := Tryz.zeroValue101
  t72 := Tryz.underlying103
  a72 := Tryz.isAgg103
  z72 := Tryz.sizeOf103
  v72 := Tryz.zeroValue103
  t75 := Tryz.underlying69
  a75 := Tryz.isAgg69
  z75 := Tryz.sizeOf69
  v75 := Tryz.zeroValue69
  t76 := Tryz.underlying70
  a76 := Tryz.isAgg70
  z76 := Tryz.sizeOf70
  v76 := Tryz.zeroValue70
  t109 := Tryz.underlying99
  a109 := Tryz.isAgg99
  z109 := Tryz.sizeOf99
  v109 := Tryz.zeroValue99
  t127 := Tryz.underlying128
  a127 := Tryz.isAgg128
  z127 := Tryz.sizeOf128
  v127 := Tryz.zeroValue128
  t146 := Tryz.underlying124
  a146 := Tryz.isAgg124
  z146 := Tryz.sizeOf124
  v146 := Tryz.zeroValue124
  t148 := Tryz.underlying126
  a148 := Tryz.isAgg126
  z148 := Tryz.sizeOf126
  v148 := Tryz.zeroValue126
  t164 := Tryz.underlying141
  a164 := Tryz.isAgg141
  z164 := Tryz.sizeOf141
  v164 := Tryz.zeroValue141 }
theorem Tryz.Builder_Extra_105 : Builder.Extra Tryz.prog Tryz.lays105_ren := {
  sizeBuilder := by kernel_rfl
  liesBuilder := by kernel_rfl
  t5 := Tryz.underlying5
  a5 := Tryz.isAgg5
  z5 := Tryz.sizeOf5
  v5 := Tryz.zeroValue5
  infoByte := by kernel_rfl
  cellsByte := by kernel_rfl
  sizeByte := by kernel_rfl
  neB5 := by decide }
open Go.RowKit Go.Lib in
open Go.RowKit Go.Lib in
open Go.RowKit Go.Lib in
open Go.RowKit Go.Lib in
open Go.RowKit Go.Lib in
open Go.RowKit Go.Lib in
open Go.RowKit Go.Lib in
theorem Tryz.strings_Repeat (s : ByteArray) (c : Nat) (w : World) (hc : c ≤ 9223372036854775807) (hlen : s.size * c ≤ 140737488355328) :
    Calls Tryz.prog 64 #[.string s, .int .i64 c] w fun e w' => e = .returned (.string ⟨(Lib.repeatL s.data.toList c).toArray⟩) ∧ Below w.heap.size w w' := Any.strings_Repeat Tryz.lays105 Tryz.Builder_Extra_105 s c w hc hlen
end Go.Proofs
end
section
set_option linter.unusedVariables false
namespace Go.Al
open Go
def dig (n : Nat) : UInt8 := UInt8.ofNat (48 + n % 10)
def dN : Nat → Nat → List UInt8
  | 0, _ => []
  | k + 1, n => dN k (n / 10) ++ [dig n]
theorem dN_length : ∀ k n, (dN k n).length = k
  | 0, _ => rfl
  | k + 1, n => by simp [dN, dN_length k]
theorem dN_zero : ∀ k, dN k 0 = List.replicate k 48
  | 0 => rfl
  | k + 1 => by
    rw [dN, Nat.zero_div, dN_zero k, List.replicate_succ']; rfl
theorem dec_big {n : Nat} (h : ¬ n < 10) : Lib.decDigits n = Lib.decDigits (n / 10) ++ [dig n] := by
  rw [Lib.decDigits, dif_neg h]; rfl
theorem dec_small {n : Nat} (h : n < 10) : Lib.decDigits n = [dig n] := by
  rw [Lib.decDigits, dif_pos h, dig, Nat.mod_eq_of_lt h]
theorem dec_pad : ∀ (k n : Nat), n < 10 ^ (k + 1) → (Lib.decDigits n).length ≤ k + 1 ∧ List.replicate (k + 1 - (Lib.decDigits n).length) 48 ++ Lib.decDigits n = dN (k + 1) n := by
  intro k
  induction k with
  | zero =>
    intro n h
    have h1 : n < 10 := by simpa using h
    rw [dec_small h1]
    simp [dN]
  | succ k ih =>
    intro n h
    by_cases h1 : n < 10
    · rw [dec_small h1]
      refine ⟨by simp, ?_⟩
      rw [dN, Nat.div_eq_of_lt h1, dN_zero]
      simp
    · rw [dec_big h1]
      obtain ⟨h2, h3⟩ := ih (n / 10) (by rw [Nat.pow_succ] at h; omega)
      refine ⟨by simp; exact h2, ?_⟩
      rw [dN, ← h3, List.length_append, ← List.append_assoc]
      simp
def cl (n : Int) : Nat := (max 0 (min n 9999999999)).toNat
theorem cl_lt (n : Int) : cl n < 10 ^ 10 := by unfold cl; omega
def rkey (v : Nat) (t : UInt8) (id seq : Int) : List UInt8 := [UInt8.ofNat (48 + v), t] ++ dN 10 (cl id) ++ dN 10 (cl seq)
theorem rkey_length (v : Nat) (t : UInt8) (id seq : Int) : (rkey v t id seq).length = 22 := by simp [rkey, dN_length]
theorem digitVal_dig (n : Nat) : Lib.digitVal (dig n) = some (n % 10) := by
  have e : (dig n).toNat = 48 + n % 10 := by simp [dig]; omega
  rw [Lib.digitVal, e, if_pos (by omega)]; simp
theorem decFrom_append : ∀ (a b : List UInt8) (acc m : Nat), Lib.decFrom acc a = some m → Lib.decFrom acc (a ++ b) = Lib.decFrom m b
  | [], b, acc, m, h => by simp only [Lib.decFrom, Option.some.injEq] at h; subst h; rfl
  | x :: a, b, acc, m, h => by
    simp only [List.cons_append, Lib.decFrom] at h ⊢
    cases hx : Lib.digitVal x with
    | none => simp [hx] at h
    | some d => simp only [hx] at h ⊢; exact decFrom_append a b _ m h
theorem decFrom_dN : ∀ (k n acc : Nat), Lib.decFrom acc (dN k n) = some (acc * 10 ^ k + n % 10 ^ k)
  | 0, n, acc => by simp [dN, Lib.decFrom, Nat.mod_one]
  | k + 1, n, acc => by
    rw [dN, decFrom_append _ _ _ _ (decFrom_dN k (n / 10) acc)]
    simp only [Lib.decFrom, digitVal_dig, Option.some.injEq]
    have h1 : n % 10 ^ (k + 1) = n / 10 % 10 ^ k * 10 + n % 10 := by
      rw [Nat.pow_succ, Nat.mul_comm (10 ^ k) 10, Nat.mod_mul, Nat.mul_comm 10, Nat.add_comm]
    rw [h1, Nat.pow_succ, ← Nat.mul_assoc, Nat.add_mul]; omega
theorem dig_ge (n : Nat) : 48 ≤ (dig n).toNat ∧ (dig n).toNat ≤ 57 := by
  have e : (dig n).toNat = 48 + n % 10 := by simp [dig]; omega
  omega
theorem dN_digits : ∀ (k n : Nat), ∀ b ∈ dN k n, 48 ≤ b.toNat ∧ b.toNat ≤ 57
  | 0, n, b, h => by simp [dN] at h
  | k + 1, n, b, h => by
    rw [dN, List.mem_append] at h
    rcases h with h | h
    · exact dN_digits k _ b h
    · obtain rfl : b = dig n := by simpa using h
      exact dig_ge n
theorem atoi_dN (k n : Nat) (h : n < 10 ^ (k + 1)) : Lib.atoi (dN (k + 1) n) = some n := by
  have hd := dN_digits (k + 1) n
  have hf := decFrom_dN (k + 1) n 0
  have hl := dN_length (k + 1) n
  generalize dN (k + 1) n = l at hd hf hl
  cases l with
  | nil => simp at hl
  | cons b r =>
    have h1 := hd b (by simp)
    have n1 : (b == 45) = false := by
      rw [beq_eq_false_iff_ne]; rintro rfl; simp at h1
    have n2 : (b == 43) = false := by
      rw [beq_eq_false_iff_ne]; rintro rfl; simp at h1
    rw [Lib.atoi, n1, n2]
    simp only [Bool.false_eq_true, if_false, Lib.decNat, List.isEmpty_cons, hf, Option.map_some]
    simp [Nat.mod_eq_of_lt h]
end Go.Al
end
section
set_option linter.unusedVariables false
namespace Go.Proofs.YtgliemhhnkhboaaGreatDoor.Ty
open Go.Al
theorem mixed : Tryz.prog.follows .mixedOrders = true := by kernel_rfl
theorem size2 : (Tryz.prog.info? 2).map (·.size) = some 1 := by kernel_rfl
theorem size3 : (Tryz.prog.info? 3).map (·.size) = some 1 := by kernel_rfl
theorem zero3 : (Tryz.prog.info? 3).bind (·.zero) = some (.int .i64 0) := by kernel_rfl
theorem size4 : (Tryz.prog.info? 4).map (·.size) = some 1 := by kernel_rfl
theorem size5 : (Tryz.prog.info? 5).map (·.size) = some 1 := by kernel_rfl
theorem zero5 : (Tryz.prog.info? 5).bind (·.zero) = some (.int .u8 0) := by kernel_rfl
theorem size9 : (Tryz.prog.info? 9).map (·.size) = some 1 := by kernel_rfl
theorem zero9 : (Tryz.prog.info? 9).bind (·.zero) = some (.string ⟨#[]⟩) := by kernel_rfl
theorem size21 : (Tryz.prog.info? 21).map (·.size) = some 1 := by kernel_rfl
theorem size22 : (Tryz.prog.info? 22).map (·.size) = some 1 := by kernel_rfl
theorem size24 : (Tryz.prog.info? 24).map (·.size) = some 4 := by kernel_rfl
theorem zero24 : (Tryz.prog.info? 24).bind (·.zero) = some (.agg #[(.int .i64 0), (.int .i64 0), (.int .i64 0), (.slice none 0 0)]) := by kernel_rfl
theorem size25 : (Tryz.prog.info? 25).map (·.size) = some 1 := by kernel_rfl
theorem size32 : (Tryz.prog.info? 32).map (·.size) = some 1 := by kernel_rfl
theorem size33 : (Tryz.prog.info? 33).map (·.size) = some 1 := by kernel_rfl
theorem size35 : (Tryz.prog.info? 35).map (·.size) = some 10 := by kernel_rfl
theorem zero35 : (Tryz.prog.info? 35).bind (·.zero) = some (.agg #[(.int .i64 0), (.string ⟨#[]⟩), (.string ⟨#[]⟩), (.string ⟨#[]⟩), (.int .i64 0), (.int .i64 0), (.int .i64 0), (.slice none 0 0), (.slice none 0 0), (.string ⟨#[]⟩)]) := by kernel_rfl
theorem size40 : (Tryz.prog.info? 40).map (·.size) = some 1 := by kernel_rfl
theorem size49 : (Tryz.prog.info? 49).map (·.size) = some 8 := by kernel_rfl
theorem zero49 : (Tryz.prog.info? 49).bind (·.zero) = some (.agg #[(.int .i64 0), (.string ⟨#[]⟩), (.string ⟨#[]⟩), (.int .i64 0), (.int .i64 0), (.bool false), (.string ⟨#[]⟩), (.int .i64 0)]) := by kernel_rfl
theorem size56 : (Tryz.prog.info? 56).map (·.size) = some 1 := by kernel_rfl
theorem size58 : (Tryz.prog.info? 58).map (·.size) = some 1 := by kernel_rfl
theorem size69 : (Tryz.prog.info? 69).map (·.size) = some 1 := by kernel_rfl
theorem size81 : (Tryz.prog.info? 81).map (·.size) = some 1 := by kernel_rfl
theorem size92 : (Tryz.prog.info? 92).map (·.size) = some 1 := by kernel_rfl
theorem size95 : (Tryz.prog.info? 95).map (·.size) = some 1 := by kernel_rfl
theorem size98 : (Tryz.prog.info? 98).map (·.size) = some 1 := by kernel_rfl
theorem size101 : (Tryz.prog.info? 101).map (·.size) = some 1 := by kernel_rfl
theorem size103 : (Tryz.prog.info? 103).map (·.size) = some 2 := by kernel_rfl
theorem zero103 : (Tryz.prog.info? 103).bind (·.zero) = some (.agg #[(.pointer none), (.slice none 0 0)]) := by kernel_rfl
theorem size115 : (Tryz.prog.info? 115).map (·.size) = some 1 := by kernel_rfl
theorem size120 : (Tryz.prog.info? 120).map (·.size) = some 3 := by kernel_rfl
theorem zero120 : (Tryz.prog.info? 120).bind (·.zero) = some (.agg #[(.string ⟨#[]⟩), (.string ⟨#[]⟩), .nilIface]) := by kernel_rfl
theorem size123 : (Tryz.prog.info? 123).map (·.size) = some 1 := by kernel_rfl
theorem size128 : (Tryz.prog.info? 128).map (·.size) = some 1 := by kernel_rfl
theorem size133 : (Tryz.prog.info? 133).map (·.size) = some 1 := by kernel_rfl
theorem size135 : (Tryz.prog.info? 135).map (·.size) = some 1 := by kernel_rfl
theorem zero135 : (Tryz.prog.info? 135).bind (·.zero) = some (.agg #[(.string ⟨#[]⟩)]) := by kernel_rfl
theorem size136 : (Tryz.prog.info? 136).map (·.size) = some 24 := by kernel_rfl
theorem zero136 : (Tryz.prog.info? 136).bind (·.zero) = some (.agg #[(.int .u8 0), (.int .u8 0), (.int .u8 0), (.int .u8 0), (.int .u8 0), (.int .u8 0), (.int .u8 0), (.int .u8 0), (.int .u8 0), (.int .u8 0), (.int .u8 0), (.int .u8 0), (.int .u8 0), (.int .u8 0), (.int .u8 0), (.int .u8 0), (.int .u8 0), (.int .u8 0), (.int .u8 0), (.int .u8 0), (.int .u8 0), (.int .u8 0), (.int .u8 0), (.int .u8 0)]) := by kernel_rfl
theorem size141 : (Tryz.prog.info? 141).map (·.size) = some 1 := by kernel_rfl
theorem size148 : (Tryz.prog.info? 148).map (·.size) = some 20 := by kernel_rfl
theorem zero148 : (Tryz.prog.info? 148).bind (·.zero) = some (.agg #[(.int .u64 0), (.int .u64 0), (.int .u64 0), (.int .u64 0), (.int .u64 0), (.int .u64 0), (.int .u64 0), (.int .u64 0), (.int .u64 0), (.int .u64 0), (.int .u64 0), (.int .u64 0), (.int .u64 0), (.int .u64 0), (.int .u64 0), (.int .u64 0), (.int .u64 0), (.int .u64 0), (.int .u64 0), (.int .u64 0)]) := by kernel_rfl
theorem size149 : (Tryz.prog.info? 149).map (·.size) = some 65 := by kernel_rfl
theorem zero149 : (Tryz.prog.info? 149).bind (·.zero) = some (.agg #[(.int .u8 0), (.int .u8 0), (.int .u8 0), (.int .u8 0), (.int .u8 0), (.int .u8 0), (.int .u8 0), (.int .u8 0), (.int .u8 0), (.int .u8 0), (.int .u8 0), (.int .u8 0), (.int .u8 0), (.int .u8 0), (.int .u8 0), (.int .u8 0), (.int .u8 0), (.int .u8 0), (.int .u8 0), (.int .u8 0), (.int .u8 0), (.int .u8 0), (.int .u8 0), (.int .u8 0), (.int .u8 0), (.int .u8 0), (.int .u8 0), (.int .u8 0), (.int .u8 0), (.int .u8 0), (.int .u8 0), (.int .u8 0), (.int .u8 0), (.int .u8 0), (.int .u8 0), (.int .u8 0), (.int .u8 0), (.int .u8 0), (.int .u8 0), (.int .u8 0), (.int .u8 0), (.int .u8 0), (.int .u8 0), (.int .u8 0), (.int .u8 0), (.int .u8 0), (.int .u8 0), (.int .u8 0), (.int .u8 0), (.int .u8 0), (.int .u8 0), (.int .u8 0), (.int .u8 0), (.int .u8 0), (.int .u8 0), (.int .u8 0), (.int .u8 0), (.int .u8 0), (.int .u8 0), (.int .u8 0), (.int .u8 0), (.int .u8 0), (.int .u8 0), (.int .u8 0), (.int .u8 0)]) := by kernel_rfl
theorem size152 : (Tryz.prog.info? 152).map (·.size) = some 256 := by kernel_rfl
theorem zero152 : (Tryz.prog.info? 152).bind (·.zero) = some (.agg #[(.int .u8 0), (.int .u8 0), (.int .u8 0), (.int .u8 0), (.int .u8 0), (.int .u8 0), (.int .u8 0), (.int .u8 0), (.int .u8 0), (.int .u8 0), (.int .u8 0), (.int .u8 0), (.int .u8 0), (.int .u8 0), (.int .u8 0), (.int .u8 0), (.int .u8 0), (.int .u8 0), (.int .u8 0), (.int .u8 0), (.int .u8 0), (.int .u8 0), (.int .u8 0), (.int .u8 0), (.int .u8 0), (.int .u8 0), (.int .u8 0), (.int .u8 0), (.int .u8 0), (.int .u8 0), (.int .u8 0), (.int .u8 0), (.int .u8 0), (.int .u8 0), (.int .u8 0), (.int .u8 0), (.int .u8 0), (.int .u8 0), (.int .u8 0), (.int .u8 0), (.int .u8 0), (.int .u8 0), (.int .u8 0), (.int .u8 0), (.int .u8 0), (.int .u8 0), (.int .u8 0), (.int .u8 0), (.int .u8 0), (.int .u8 0), (.int .u8 0), (.int .u8 0), (.int .u8 0), (.int .u8 0), (.int .u8 0), (.int .u8 0), (.int .u8 0), (.int .u8 0), (.int .u8 0), (.int .u8 0), (.int .u8 0), (.int .u8 0), (.int .u8 0), (.int .u8 0), (.int .u8 0), (.int .u8 0), (.int .u8 0), (.int .u8 0), (.int .u8 0), (.int .u8 0), (.int .u8 0), (.int .u8 0), (.int .u8 0), (.int .u8 0), (.int .u8 0), (.int .u8 0), (.int .u8 0), (.int .u8 0), (.int .u8 0), (.int .u8 0), (.int .u8 0), (.int .u8 0), (.int .u8 0), (.int .u8 0), (.int .u8 0), (.int .u8 0), (.int .u8 0), (.int .u8 0), (.int .u8 0), (.int .u8 0), (.int .u8 0), (.int .u8 0), (.int .u8 0), (.int .u8 0), (.int .u8 0), (.int .u8 0), (.int .u8 0), (.int .u8 0), (.int .u8 0), (.int .u8 0), (.int .u8 0), (.int .u8 0), (.int .u8 0), (.int .u8 0), (.int .u8 0), (.int .u8 0), (.int .u8 0), (.int .u8 0), (.int .u8 0), (.int .u8 0), (.int .u8 0), (.int .u8 0), (.int .u8 0), (.int .u8 0), (.int .u8 0), (.int .u8 0), (.int .u8 0), (.int .u8 0), (.int .u8 0), (.int .u8 0), (.int .u8 0), (.int .u8 0), (.int .u8 0), (.int .u8 0), (.int .u8 0), (.int .u8 0), (.int .u8 0), (.int .u8 0), (.int .u8 0), (.int .u8 0), (.int .u8 0), (.int .u8 0), (.int .u8 0), (.int .u8 0), (.int .u8 0), (.int .u8 0), (.int .u8 0), (.int .u8 0), (.int .u8 0), (.int .u8 0), (.int .u8 0), (.int .u8 0), (.int .u8 0), (.int .u8 0), (.int .u8 0), (.int .u8 0), (.int .u8 0), (.int .u8 0), (.int .u8 0), (.int .u8 0), (.int .u8 0), (.int .u8 0), (.int .u8 0), (.int .u8 0), (.int .u8 0), (.int .u8 0), (.int .u8 0), (.int .u8 0), (.int .u8 0), (.int .u8 0), (.int .u8 0), (.int .u8 0), (.int .u8 0), (.int .u8 0), (.int .u8 0), (.int .u8 0), (.int .u8 0), (.int .u8 0), (.int .u8 0), (.int .u8 0), (.int .u8 0), (.int .u8 0), (.int .u8 0), (.int .u8 0), (.int .u8 0), (.int .u8 0), (.int .u8 0), (.int .u8 0), (.int .u8 0), (.int .u8 0), (.int .u8 0), (.int .u8 0), (.int .u8 0), (.int .u8 0), (.int .u8 0), (.int .u8 0), (.int .u8 0), (.int .u8 0), (.int .u8 0), (.int .u8 0), (.int .u8 0), (.int .u8 0), (.int .u8 0), (.int .u8 0), (.int .u8 0), (.int .u8 0), (.int .u8 0), (.int .u8 0), (.int .u8 0), (.int .u8 0), (.int .u8 0), (.int .u8 0), (.int .u8 0), (.int .u8 0), (.int .u8 0), (.int .u8 0), (.int .u8 0), (.int .u8 0), (.int .u8 0), (.int .u8 0), (.int .u8 0), (.int .u8 0), (.int .u8 0), (.int .u8 0), (.int .u8 0), (.int .u8 0), (.int .u8 0), (.int .u8 0), (.int .u8 0), (.int .u8 0), (.int .u8 0), (.int .u8 0), (.int .u8 0), (.int .u8 0), (.int .u8 0), (.int .u8 0), (.int .u8 0), (.int .u8 0), (.int .u8 0), (.int .u8 0), (.int .u8 0), (.int .u8 0), (.int .u8 0), (.int .u8 0), (.int .u8 0), (.int .u8 0), (.int .u8 0), (.int .u8 0), (.int .u8 0), (.int .u8 0), (.int .u8 0), (.int .u8 0), (.int .u8 0), (.int .u8 0), (.int .u8 0), (.int .u8 0), (.int .u8 0), (.int .u8 0), (.int .u8 0), (.int .u8 0), (.int .u8 0), (.int .u8 0), (.int .u8 0), (.int .u8 0), (.int .u8 0), (.int .u8 0)]) := by kernel_rfl
theorem size154 : (Tryz.prog.info? 154).map (·.size) = some 2 := by kernel_rfl
theorem zero154 : (Tryz.prog.info? 154).bind (·.zero) = some (.agg #[(.int .u8 0), (.int .u8 0)]) := by kernel_rfl
theorem size155 : (Tryz.prog.info? 155).map (·.size) = some 32 := by kernel_rfl
theorem zero155 : (Tryz.prog.info? 155).bind (·.zero) = some (.agg #[(.int .u8 0), (.int .u8 0), (.int .u8 0), (.int .u8 0), (.int .u8 0), (.int .u8 0), (.int .u8 0), (.int .u8 0), (.int .u8 0), (.int .u8 0), (.int .u8 0), (.int .u8 0), (.int .u8 0), (.int .u8 0), (.int .u8 0), (.int .u8 0), (.int .u8 0), (.int .u8 0), (.int .u8 0), (.int .u8 0), (.int .u8 0), (.int .u8 0), (.int .u8 0), (.int .u8 0), (.int .u8 0), (.int .u8 0), (.int .u8 0), (.int .u8 0), (.int .u8 0), (.int .u8 0), (.int .u8 0), (.int .u8 0)]) := by kernel_rfl
theorem size158 : (Tryz.prog.info? 158).map (·.size) = some 32 := by kernel_rfl
theorem zero158 : (Tryz.prog.info? 158).bind (·.zero) = some (.agg #[(.int .u8 0), (.int .u8 0), (.int .u8 0), (.int .u8 0), (.int .u8 0), (.int .u8 0), (.int .u8 0), (.int .u8 0), (.int .u8 0), (.int .u8 0), (.int .u8 0), (.int .u8 0), (.int .u8 0), (.int .u8 0), (.int .u8 0), (.int .u8 0), (.int .u8 0), (.int .u8 0), (.int .u8 0), (.int .u8 0), (.int .u8 0), (.int .u8 0), (.int .u8 0), (.int .u8 0), (.int .u8 0), (.int .u8 0), (.int .u8 0), (.int .u8 0), (.int .u8 0), (.int .u8 0), (.int .u8 0), (.int .u8 0)]) := by kernel_rfl
theorem size159 : (Tryz.prog.info? 159).map (·.size) = some 64 := by kernel_rfl
theorem zero159 : (Tryz.prog.info? 159).bind (·.zero) = some (.agg #[(.int .u8 0), (.int .u8 0), (.int .u8 0), (.int .u8 0), (.int .u8 0), (.int .u8 0), (.int .u8 0), (.int .u8 0), (.int .u8 0), (.int .u8 0), (.int .u8 0), (.int .u8 0), (.int .u8 0), (.int .u8 0), (.int .u8 0), (.int .u8 0), (.int .u8 0), (.int .u8 0), (.int .u8 0), (.int .u8 0), (.int .u8 0), (.int .u8 0), (.int .u8 0), (.int .u8 0), (.int .u8 0), (.int .u8 0), (.int .u8 0), (.int .u8 0), (.int .u8 0), (.int .u8 0), (.int .u8 0), (.int .u8 0), (.int .u8 0), (.int .u8 0), (.int .u8 0), (.int .u8 0), (.int .u8 0), (.int .u8 0), (.int .u8 0), (.int .u8 0), (.int .u8 0), (.int .u8 0), (.int .u8 0), (.int .u8 0), (.int .u8 0), (.int .u8 0), (.int .u8 0), (.int .u8 0), (.int .u8 0), (.int .u8 0), (.int .u8 0), (.int .u8 0), (.int .u8 0), (.int .u8 0), (.int .u8 0), (.int .u8 0), (.int .u8 0), (.int .u8 0), (.int .u8 0), (.int .u8 0), (.int .u8 0), (.int .u8 0), (.int .u8 0), (.int .u8 0)]) := by kernel_rfl
-- slice 22 of 35: 10 cells, 144 bytes
-- slice 25 of 5: 1 cells, 1 bytes
-- slice 32 of 3: 1 cells, 8 bytes
-- slice 33 of 49: 8 cells, 88 bytes
-- slice 56 of 9: 1 cells, 16 bytes
end Go.Proofs.YtgliemhhnkhboaaGreatDoor.Ty
end
section
set_option linter.unusedVariables false
namespace Go.Proofs.YtgliemhhnkhboaaGreatDoor.Ty
open Go.Al
instance : TyU Tryz.prog 2 (.int .i64) := ⟨Tryz.underlying2⟩
instance : TyA Tryz.prog 2 false := ⟨_, Tryz.underlying2, rfl⟩
instance : TyS Tryz.prog 2 1 := ⟨Ty.size2⟩
instance : TyU Tryz.prog 3 (.int .i64) := ⟨Tryz.underlying3⟩
instance : TyA Tryz.prog 3 false := ⟨_, Tryz.underlying3, rfl⟩
instance : TyS Tryz.prog 3 1 := ⟨Ty.size3⟩
instance : TyU Tryz.prog 4 .bool := ⟨Tryz.underlying4⟩
instance : TyA Tryz.prog 4 false := ⟨_, Tryz.underlying4, rfl⟩
instance : TyS Tryz.prog 4 1 := ⟨Ty.size4⟩
instance : TyU Tryz.prog 5 (.int .u8) := ⟨Tryz.underlying5⟩
instance : TyA Tryz.prog 5 false := ⟨_, Tryz.underlying5, rfl⟩
instance : TyS Tryz.prog 5 1 := ⟨Ty.size5⟩
instance : TyU Tryz.prog 9 .string := ⟨Tryz.underlying9⟩
instance : TyA Tryz.prog 9 false := ⟨_, Tryz.underlying9, rfl⟩
instance : TyS Tryz.prog 9 1 := ⟨Ty.size9⟩
instance : TyU Tryz.prog 21 (.int .i32) := ⟨Tryz.underlying21⟩
instance : TyA Tryz.prog 21 false := ⟨_, Tryz.underlying21, rfl⟩
instance : TyS Tryz.prog 21 1 := ⟨Ty.size21⟩
instance : TyU Tryz.prog 22 (.slice 35) := ⟨Tryz.underlying22⟩
instance : TyA Tryz.prog 22 false := ⟨_, Tryz.underlying22, rfl⟩
instance : TyS Tryz.prog 22 1 := ⟨Ty.size22⟩
instance : SlI Tryz.prog 22 10 := .of (z := (.agg #[(.int .i64 0), (.string ⟨#[]⟩), (.string ⟨#[]⟩), (.string ⟨#[]⟩), (.int .i64 0), (.int .i64 0), (.int .i64 0), (.slice none 0 0), (.slice none 0 0), (.string ⟨#[]⟩)])) Tryz.underlying22 Ty.size35 Ty.zero35 rfl (by decide)
instance : TyA Tryz.prog 24 true := ⟨_, Tryz.underlying24, rfl⟩
instance : TyS Tryz.prog 24 4 := ⟨Ty.size24⟩
instance : BldI Tryz.prog 24 [(.int .i64 0), (.int .i64 0), (.int .i64 0), .nils] [(0, 1), (1, 1), (2, 1), (3, 1)] := .struct (za := #[(.int .i64 0), (.int .i64 0), (.int .i64 0), (.slice none 0 0)]) Tryz.underlying24 Ty.zero24 (by kernel_rfl) (by kernel_rfl) (by kernel_rfl) (by kernel_rfl)
instance : TyF Tryz.prog 24 0 3 0 1 false := ⟨_, _, _, Tryz.underlying24, rfl, rfl, rfl, Ty.size3, Tryz.underlying3, rfl⟩
instance : TyF Tryz.prog 24 1 3 1 1 false := ⟨_, _, _, Tryz.underlying24, rfl, rfl, rfl, Ty.size3, Tryz.underlying3, rfl⟩
instance : TyF Tryz.prog 24 2 3 2 1 false := ⟨_, _, _, Tryz.underlying24, rfl, rfl, rfl, Ty.size3, Tryz.underlying3, rfl⟩
instance : TyF Tryz.prog 24 3 22 3 1 false := ⟨_, _, _, Tryz.underlying24, rfl, rfl, rfl, Ty.size22, Tryz.underlying22, rfl⟩
instance : TyU Tryz.prog 25 (.slice 5) := ⟨Tryz.underlying25⟩
instance : TyA Tryz.prog 25 false := ⟨_, Tryz.underlying25, rfl⟩
instance : TyS Tryz.prog 25 1 := ⟨Ty.size25⟩
instance : SlI Tryz.prog 25 1 := .of (z := (.int .u8 0)) Tryz.underlying25 Ty.size5 Ty.zero5 rfl (by decide)
instance : TyU Tryz.prog 32 (.slice 3) := ⟨Tryz.underlying32⟩
instance : TyA Tryz.prog 32 false := ⟨_, Tryz.underlying32, rfl⟩
instance : TyS Tryz.prog 32 1 := ⟨Ty.size32⟩
instance : SlI Tryz.prog 32 1 := .of (z := (.int .i64 0)) Tryz.underlying32 Ty.size3 Ty.zero3 rfl (by decide)
instance : TyU Tryz.prog 33 (.slice 49) := ⟨Tryz.underlying33⟩
instance : TyA Tryz.prog 33 false := ⟨_, Tryz.underlying33, rfl⟩
instance : TyS Tryz.prog 33 1 := ⟨Ty.size33⟩
instance : SlI Tryz.prog 33 8 := .of (z := (.agg #[(.int .i64 0), (.string ⟨#[]⟩), (.string ⟨#[]⟩), (.int .i64 0), (.int .i64 0), (.bool false), (.string ⟨#[]⟩), (.int .i64 0)])) Tryz.underlying33 Ty.size49 Ty.zero49 rfl (by decide)
instance : TyA Tryz.prog 35 true := ⟨_, Tryz.underlying35, rfl⟩
instance : TyS Tryz.prog 35 10 := ⟨Ty.size35⟩
instance : BldI Tryz.prog 35 [(.int .i64 0), .str [], .str [], .str [], (.int .i64 0), (.int .i64 0), (.int .i64 0), .nils, .nils, .str []] [(0, 1), (1, 1), (2, 1), (3, 1), (4, 1), (5, 1), (6, 1), (7, 1), (8, 1), (9, 1)] := .struct (za := #[(.int .i64 0), (.string ⟨#[]⟩), (.string ⟨#[]⟩), (.string ⟨#[]⟩), (.int .i64 0), (.int .i64 0), (.int .i64 0), (.slice none 0 0), (.slice none 0 0), (.string ⟨#[]⟩)]) Tryz.underlying35 Ty.zero35 (by kernel_rfl) (by kernel_rfl) (by kernel_rfl) (by kernel_rfl)
instance : TyF Tryz.prog 35 0 3 0 1 false := ⟨_, _, _, Tryz.underlying35, rfl, rfl, rfl, Ty.size3, Tryz.underlying3, rfl⟩
instance : TyF Tryz.prog 35 1 9 1 1 false := ⟨_, _, _, Tryz.underlying35, rfl, rfl, rfl, Ty.size9, Tryz.underlying9, rfl⟩
instance : TyF Tryz.prog 35 2 9 2 1 false := ⟨_, _, _, Tryz.underlying35, rfl, rfl, rfl, Ty.size9, Tryz.underlying9, rfl⟩
instance : TyF Tryz.prog 35 3 9 3 1 false := ⟨_, _, _, Tryz.underlying35, rfl, rfl, rfl, Ty.size9, Tryz.underlying9, rfl⟩
instance : TyF Tryz.prog 35 4 3 4 1 false := ⟨_, _, _, Tryz.underlying35, rfl, rfl, rfl, Ty.size3, Tryz.underlying3, rfl⟩
instance : TyF Tryz.prog 35 5 3 5 1 false := ⟨_, _, _, Tryz.underlying35, rfl, rfl, rfl, Ty.size3, Tryz.underlying3, rfl⟩
instance : TyF Tryz.prog 35 6 3 6 1 false := ⟨_, _, _, Tryz.underlying35, rfl, rfl, rfl, Ty.size3, Tryz.underlying3, rfl⟩
instance : TyF Tryz.prog 35 7 32 7 1 false := ⟨_, _, _, Tryz.underlying35, rfl, rfl, rfl, Ty.size32, Tryz.underlying32, rfl⟩
instance : TyF Tryz.prog 35 8 33 8 1 false := ⟨_, _, _, Tryz.underlying35, rfl, rfl, rfl, Ty.size33, Tryz.underlying33, rfl⟩
instance : TyF Tryz.prog 35 9 9 9 1 false := ⟨_, _, _, Tryz.underlying35, rfl, rfl, rfl, Ty.size9, Tryz.underlying9, rfl⟩
instance : TyA Tryz.prog 40 false := ⟨_, Tryz.underlying40, rfl⟩
instance : TyS Tryz.prog 40 1 := ⟨Ty.size40⟩
instance : TyA Tryz.prog 49 true := ⟨_, Tryz.underlying49, rfl⟩
instance : TyS Tryz.prog 49 8 := ⟨Ty.size49⟩
instance : BldI Tryz.prog 49 [(.int .i64 0), .str [], .str [], (.int .i64 0), (.int .i64 0), (.bool false), .str [], (.int .i64 0)] [(0, 1), (1, 1), (2, 1), (3, 1), (4, 1), (5, 1), (6, 1), (7, 1)] := .struct (za := #[(.int .i64 0), (.string ⟨#[]⟩), (.string ⟨#[]⟩), (.int .i64 0), (.int .i64 0), (.bool false), (.string ⟨#[]⟩), (.int .i64 0)]) Tryz.underlying49 Ty.zero49 (by kernel_rfl) (by kernel_rfl) (by kernel_rfl) (by kernel_rfl)
instance : TyF Tryz.prog 49 0 3 0 1 false := ⟨_, _, _, Tryz.underlying49, rfl, rfl, rfl, Ty.size3, Tryz.underlying3, rfl⟩
instance : TyF Tryz.prog 49 1 9 1 1 false := ⟨_, _, _, Tryz.underlying49, rfl, rfl, rfl, Ty.size9, Tryz.underlying9, rfl⟩
instance : TyF Tryz.prog 49 2 9 2 1 false := ⟨_, _, _, Tryz.underlying49, rfl, rfl, rfl, Ty.size9, Tryz.underlying9, rfl⟩
instance : TyF Tryz.prog 49 3 3 3 1 false := ⟨_, _, _, Tryz.underlying49, rfl, rfl, rfl, Ty.size3, Tryz.underlying3, rfl⟩
instance : TyF Tryz.prog 49 4 3 4 1 false := ⟨_, _, _, Tryz.underlying49, rfl, rfl, rfl, Ty.size3, Tryz.underlying3, rfl⟩
instance : TyF Tryz.prog 49 5 4 5 1 false := ⟨_, _, _, Tryz.underlying49, rfl, rfl, rfl, Ty.size4, Tryz.underlying4, rfl⟩
instance : TyF Tryz.prog 49 6 9 6 1 false := ⟨_, _, _, Tryz.underlying49, rfl, rfl, rfl, Ty.size9, Tryz.underlying9, rfl⟩
instance : TyF Tryz.prog 49 7 3 7 1 false := ⟨_, _, _, Tryz.underlying49, rfl, rfl, rfl, Ty.size3, Tryz.underlying3, rfl⟩
instance : TyU Tryz.prog 56 (.slice 9) := ⟨Tryz.underlying56⟩
instance : TyA Tryz.prog 56 false := ⟨_, Tryz.underlying56, rfl⟩
instance : TyS Tryz.prog 56 1 := ⟨Ty.size56⟩
instance : SlI Tryz.prog 56 1 := .of (z := (.string ⟨#[]⟩)) Tryz.underlying56 Ty.size9 Ty.zero9 rfl (by decide)
instance : TyA Tryz.prog 58 false := ⟨_, Tryz.underlying58, rfl⟩
instance : TyS Tryz.prog 58 1 := ⟨Ty.size58⟩
instance : TyA Tryz.prog 69 false := ⟨_, Tryz.underlying69, rfl⟩
instance : TyS Tryz.prog 69 1 := ⟨Ty.size69⟩
instance : TyA Tryz.prog 81 false := ⟨_, Tryz.underlying81, rfl⟩
instance : TyS Tryz.prog 81 1 := ⟨Ty.size81⟩
instance : TyU Tryz.prog 92 (.int .i64) := ⟨Tryz.underlying92⟩
instance : TyA Tryz.prog 92 false := ⟨_, Tryz.underlying92, rfl⟩
instance : TyS Tryz.prog 92 1 := ⟨Ty.size92⟩
instance : TyU Tryz.prog 95 (.pointer 120) := ⟨Tryz.underlying95⟩
instance : TyA Tryz.prog 95 false := ⟨_, Tryz.underlying95, rfl⟩
instance : TyS Tryz.prog 95 1 := ⟨Ty.size95⟩
instance : TyU Tryz.prog 98 (.int .u64) := ⟨Tryz.underlying98⟩
instance : TyA Tryz.prog 98 false := ⟨_, Tryz.underlying98, rfl⟩
instance : TyS Tryz.prog 98 1 := ⟨Ty.size98⟩
instance : TyU Tryz.prog 101 (.pointer 103) := ⟨Tryz.underlying101⟩
instance : TyA Tryz.prog 101 false := ⟨_, Tryz.underlying101, rfl⟩
instance : TyS Tryz.prog 101 1 := ⟨Ty.size101⟩
instance : TyA Tryz.prog 103 true := ⟨_, Tryz.underlying103, rfl⟩
instance : TyS Tryz.prog 103 2 := ⟨Ty.size103⟩
instance : BldI Tryz.prog 103 [.nilp, .nils] [(0, 1), (1, 1)] := .struct (za := #[(.pointer none), (.slice none 0 0)]) Tryz.underlying103 Ty.zero103 (by kernel_rfl) (by kernel_rfl) (by kernel_rfl) (by kernel_rfl)
instance : TyF Tryz.prog 103 0 101 0 1 false := ⟨_, _, _, Tryz.underlying103, rfl, rfl, rfl, Ty.size101, Tryz.underlying101, rfl⟩
instance : TyF Tryz.prog 103 1 25 1 1 false := ⟨_, _, _, Tryz.underlying103, rfl, rfl, rfl, Ty.size25, Tryz.underlying25, rfl⟩
instance : TyU Tryz.prog 115 (.int .u64) := ⟨Tryz.underlying115⟩
instance : TyA Tryz.prog 115 false := ⟨_, Tryz.underlying115, rfl⟩
instance : TyS Tryz.prog 115 1 := ⟨Ty.size115⟩
instance : TyA Tryz.prog 120 true := ⟨_, Tryz.underlying120, rfl⟩
instance : TyS Tryz.prog 120 3 := ⟨Ty.size120⟩
instance : BldI Tryz.prog 120 [.str [], .str [], .nilifc] [(0, 1), (1, 1), (2, 1)] := .struct (za := #[(.string ⟨#[]⟩), (.string ⟨#[]⟩), .nilIface]) Tryz.underlying120 Ty.zero120 (by kernel_rfl) (by kernel_rfl) (by kernel_rfl) (by kernel_rfl)
instance : TyF Tryz.prog 120 0 9 0 1 false := ⟨_, _, _, Tryz.underlying120, rfl, rfl, rfl, Ty.size9, Tryz.underlying9, rfl⟩
instance : TyF Tryz.prog 120 1 9 1 1 false := ⟨_, _, _, Tryz.underlying120, rfl, rfl, rfl, Ty.size9, Tryz.underlying9, rfl⟩
instance : TyF Tryz.prog 120 2 69 2 1 false := ⟨_, _, _, Tryz.underlying120, rfl, rfl, rfl, Ty.size69, Tryz.underlying69, rfl⟩
instance : TyU Tryz.prog 123 (.int .u32) := ⟨Tryz.underlying123⟩
instance : TyA Tryz.prog 123 false := ⟨_, Tryz.underlying123, rfl⟩
instance : TyS Tryz.prog 123 1 := ⟨Ty.size123⟩
instance : TyU Tryz.prog 128 (.pointer 5) := ⟨Tryz.underlying128⟩
instance : TyA Tryz.prog 128 false := ⟨_, Tryz.underlying128, rfl⟩
instance : TyS Tryz.prog 128 1 := ⟨Ty.size128⟩
instance : TyU Tryz.prog 133 (.pointer 135) := ⟨Tryz.underlying133⟩
instance : TyA Tryz.prog 133 false := ⟨_, Tryz.underlying133, rfl⟩
instance : TyS Tryz.prog 133 1 := ⟨Ty.size133⟩
instance : TyA Tryz.prog 135 true := ⟨_, Tryz.underlying135, rfl⟩
instance : TyS Tryz.prog 135 1 := ⟨Ty.size135⟩
instance : BldI Tryz.prog 135 [.str []] [(0, 1)] := .struct (za := #[(.string ⟨#[]⟩)]) Tryz.underlying135 Ty.zero135 (by kernel_rfl) (by kernel_rfl) (by kernel_rfl) (by kernel_rfl)
instance : TyF Tryz.prog 135 0 9 0 1 false := ⟨_, _, _, Tryz.underlying135, rfl, rfl, rfl, Ty.size9, Tryz.underlying9, rfl⟩
instance : TyU Tryz.prog 136 (.array 24 5) := ⟨Tryz.underlying136⟩
instance : TyA Tryz.prog 136 true := ⟨_, Tryz.underlying136, rfl⟩
instance : TyS Tryz.prog 136 24 := ⟨Ty.size136⟩
instance : BldI Tryz.prog 136 [(.int .u8 0), (.int .u8 0), (.int .u8 0), (.int .u8 0), (.int .u8 0), (.int .u8 0), (.int .u8 0), (.int .u8 0), (.int .u8 0), (.int .u8 0), (.int .u8 0), (.int .u8 0), (.int .u8 0), (.int .u8 0), (.int .u8 0), (.int .u8 0), (.int .u8 0), (.int .u8 0), (.int .u8 0), (.int .u8 0), (.int .u8 0), (.int .u8 0), (.int .u8 0), (.int .u8 0)] ((List.range 24).map fun j => (j * 1, 1)) := .array (za := #[(.int .u8 0), (.int .u8 0), (.int .u8 0), (.int .u8 0), (.int .u8 0), (.int .u8 0), (.int .u8 0), (.int .u8 0), (.int .u8 0), (.int .u8 0), (.int .u8 0), (.int .u8 0), (.int .u8 0), (.int .u8 0), (.int .u8 0), (.int .u8 0), (.int .u8 0), (.int .u8 0), (.int .u8 0), (.int .u8 0), (.int .u8 0), (.int .u8 0), (.int .u8 0), (.int .u8 0)]) Tryz.underlying136 Ty.zero136 (by kernel_rfl) Ty.size5 (by kernel_rfl)
instance : TyA Tryz.prog 141 false := ⟨_, Tryz.underlying141, rfl⟩
instance : TyS Tryz.prog 141 1 := ⟨Ty.size141⟩
instance : TyU Tryz.prog 148 (.array 20 115) := ⟨Tryz.underlying148⟩
instance : TyA Tryz.prog 148 true := ⟨_, Tryz.underlying148, rfl⟩
instance : TyS Tryz.prog 148 20 := ⟨Ty.size148⟩
instance : BldI Tryz.prog 148 [(.int .u64 0), (.int .u64 0), (.int .u64 0), (.int .u64 0), (.int .u64 0), (.int .u64 0), (.int .u64 0), (.int .u64 0), (.int .u64 0), (.int .u64 0), (.int .u64 0), (.int .u64 0), (.int .u64 0), (.int .u64 0), (.int .u64 0), (.int .u64 0), (.int .u64 0), (.int .u64 0), (.int .u64 0), (.int .u64 0)] ((List.range 20).map fun j => (j * 1, 1)) := .array (za := #[(.int .u64 0), (.int .u64 0), (.int .u64 0), (.int .u64 0), (.int .u64 0), (.int .u64 0), (.int .u64 0), (.int .u64 0), (.int .u64 0), (.int .u64 0), (.int .u64 0), (.int .u64 0), (.int .u64 0), (.int .u64 0), (.int .u64 0), (.int .u64 0), (.int .u64 0), (.int .u64 0), (.int .u64 0), (.int .u64 0)]) Tryz.underlying148 Ty.zero148 (by kernel_rfl) Ty.size115 (by kernel_rfl)
instance : TyU Tryz.prog 149 (.array 65 5) := ⟨Tryz.underlying149⟩
instance : TyA Tryz.prog 149 true := ⟨_, Tryz.underlying149, rfl⟩
instance : TyS Tryz.prog 149 65 := ⟨Ty.size149⟩
instance : BldI Tryz.prog 149 [(.int .u8 0), (.int .u8 0), (.int .u8 0), (.int .u8 0), (.int .u8 0), (.int .u8 0), (.int .u8 0), (.int .u8 0), (.int .u8 0), (.int .u8 0), (.int .u8 0), (.int .u8 0), (.int .u8 0), (.int .u8 0), (.int .u8 0), (.int .u8 0), (.int .u8 0), (.int .u8 0), (.int .u8 0), (.int .u8 0), (.int .u8 0), (.int .u8 0), (.int .u8 0), (.int .u8 0), (.int .u8 0), (.int .u8 0), (.int .u8 0), (.int .u8 0), (.int .u8 0), (.int .u8 0), (.int .u8 0), (.int .u8 0), (.int .u8 0), (.int .u8 0), (.int .u8 0), (.int .u8 0), (.int .u8 0), (.int .u8 0), (.int .u8 0), (.int .u8 0), (.int .u8 0), (.int .u8 0), (.int .u8 0), (.int .u8 0), (.int .u8 0), (.int .u8 0), (.int .u8 0), (.int .u8 0), (.int .u8 0), (.int .u8 0), (.int .u8 0), (.int .u8 0), (.int .u8 0), (.int .u8 0), (.int .u8 0), (.int .u8 0), (.int .u8 0), (.int .u8 0), (.int .u8 0), (.int .u8 0), (.int .u8 0), (.int .u8 0), (.int .u8 0), (.int .u8 0), (.int .u8 0)] ((List.range 65).map fun j => (j * 1, 1)) := .array (za := #[(.int .u8 0), (.int .u8 0), (.int .u8 0), (.int .u8 0), (.int .u8 0), (.int .u8 0), (.int .u8 0), (.int .u8 0), (.int .u8 0), (.int .u8 0), (.int .u8 0), (.int .u8 0), (.int .u8 0), (.int .u8 0), (.int .u8 0), (.int .u8 0), (.int .u8 0), (.int .u8 0), (.int .u8 0), (.int .u8 0), (.int .u8 0), (.int .u8 0), (.int .u8 0), (.int .u8 0), (.int .u8 0), (.int .u8 0), (.int .u8 0), (.int .u8 0), (.int .u8 0), (.int .u8 0), (.int .u8 0), (.int .u8 0), (.int .u8 0), (.int .u8 0), (.int .u8 0), (.int .u8 0), (.int .u8 0), (.int .u8 0), (.int .u8 0), (.int .u8 0), (.int .u8 0), (.int .u8 0), (.int .u8 0), (.int .u8 0), (.int .u8 0), (.int .u8 0), (.int .u8 0), (.int .u8 0), (.int .u8 0), (.int .u8 0), (.int .u8 0), (.int .u8 0), (.int .u8 0), (.int .u8 0), (.int .u8 0), (.int .u8 0), (.int .u8 0), (.int .u8 0), (.int .u8 0), (.int .u8 0), (.int .u8 0), (.int .u8 0), (.int .u8 0), (.int .u8 0), (.int .u8 0)]) Tryz.underlying149 Ty.zero149 (by kernel_rfl) Ty.size5 (by kernel_rfl)
instance : TyU Tryz.prog 152 (.array 256 5) := ⟨Tryz.underlying152⟩
instance : TyA Tryz.prog 152 true := ⟨_, Tryz.underlying152, rfl⟩
instance : TyS Tryz.prog 152 256 := ⟨Ty.size152⟩
instance : BldI Tryz.prog 152 [(.int .u8 0), (.int .u8 0), (.int .u8 0), (.int .u8 0), (.int .u8 0), (.int .u8 0), (.int .u8 0), (.int .u8 0), (.int .u8 0), (.int .u8 0), (.int .u8 0), (.int .u8 0), (.int .u8 0), (.int .u8 0), (.int .u8 0), (.int .u8 0), (.int .u8 0), (.int .u8 0), (.int .u8 0), (.int .u8 0), (.int .u8 0), (.int .u8 0), (.int .u8 0), (.int .u8 0), (.int .u8 0), (.int .u8 0), (.int .u8 0), (.int .u8 0), (.int .u8 0), (.int .u8 0), (.int .u8 0), (.int .u8 0), (.int .u8 0), (.int .u8 0), (.int .u8 0), (.int .u8 0), (.int .u8 0), (.int .u8 0), (.int .u8 0), (.int .u8 0), (.int .u8 0), (.int .u8 0), (.int .u8 0), (.int .u8 0), (.int .u8 0), (.int .u8 0), (.int .u8 0), (.int .u8 0), (.int .u8 0), (.int .u8 0), (.int .u8 0), (.int .u8 0), (.int .u8 0), (.int .u8 0), (.int .u8 0), (.int .u8 0), (.int .u8 0), (.int .u8 0), (.int .u8 0), (.int .u8 0), (.int .u8 0), (.int .u8 0), (.int .u8 0), (.int .u8 0), (.int .u8 0), (.int .u8 0), (.int .u8 0), (.int .u8 0), (.int .u8 0), (.int .u8 0), (.int .u8 0), (.int .u8 0), (.int .u8 0), (.int .u8 0), (.int .u8 0), (.int .u8 0), (.int .u8 0), (.int .u8 0), (.int .u8 0), (.int .u8 0), (.int .u8 0), (.int .u8 0), (.int .u8 0), (.int .u8 0), (.int .u8 0), (.int .u8 0), (.int .u8 0), (.int .u8 0), (.int .u8 0), (.int .u8 0), (.int .u8 0), (.int .u8 0), (.int .u8 0), (.int .u8 0), (.int .u8 0), (.int .u8 0), (.int .u8 0), (.int .u8 0), (.int .u8 0), (.int .u8 0), (.int .u8 0), (.int .u8 0), (.int .u8 0), (.int .u8 0), (.int .u8 0), (.int .u8 0), (.int .u8 0), (.int .u8 0), (.int .u8 0), (.int .u8 0), (.int .u8 0), (.int .u8 0), (.int .u8 0), (.int .u8 0), (.int .u8 0), (.int .u8 0), (.int .u8 0), (.int .u8 0), (.int .u8 0), (.int .u8 0), (.int .u8 0), (.int .u8 0), (.int .u8 0), (.int .u8 0), (.int .u8 0), (.int .u8 0), (.int .u8 0), (.int .u8 0), (.int .u8 0), (.int .u8 0), (.int .u8 0), (.int .u8 0), (.int .u8 0), (.int .u8 0), (.int .u8 0), (.int .u8 0), (.int .u8 0), (.int .u8 0), (.int .u8 0), (.int .u8 0), (.int .u8 0), (.int .u8 0), (.int .u8 0), (.int .u8 0), (.int .u8 0), (.int .u8 0), (.int .u8 0), (.int .u8 0), (.int .u8 0), (.int .u8 0), (.int .u8 0), (.int .u8 0), (.int .u8 0), (.int .u8 0), (.int .u8 0), (.int .u8 0), (.int .u8 0), (.int .u8 0), (.int .u8 0), (.int .u8 0), (.int .u8 0), (.int .u8 0), (.int .u8 0), (.int .u8 0), (.int .u8 0), (.int .u8 0), (.int .u8 0), (.int .u8 0), (.int .u8 0), (.int .u8 0), (.int .u8 0), (.int .u8 0), (.int .u8 0), (.int .u8 0), (.int .u8 0), (.int .u8 0), (.int .u8 0), (.int .u8 0), (.int .u8 0), (.int .u8 0), (.int .u8 0), (.int .u8 0), (.int .u8 0), (.int .u8 0), (.int .u8 0), (.int .u8 0), (.int .u8 0), (.int .u8 0), (.int .u8 0), (.int .u8 0), (.int .u8 0), (.int .u8 0), (.int .u8 0), (.int .u8 0), (.int .u8 0), (.int .u8 0), (.int .u8 0), (.int .u8 0), (.int .u8 0), (.int .u8 0), (.int .u8 0), (.int .u8 0), (.int .u8 0), (.int .u8 0), (.int .u8 0), (.int .u8 0), (.int .u8 0), (.int .u8 0), (.int .u8 0), (.int .u8 0), (.int .u8 0), (.int .u8 0), (.int .u8 0), (.int .u8 0), (.int .u8 0), (.int .u8 0), (.int .u8 0), (.int .u8 0), (.int .u8 0), (.int .u8 0), (.int .u8 0), (.int .u8 0), (.int .u8 0), (.int .u8 0), (.int .u8 0), (.int .u8 0), (.int .u8 0), (.int .u8 0), (.int .u8 0), (.int .u8 0), (.int .u8 0), (.int .u8 0), (.int .u8 0), (.int .u8 0), (.int .u8 0), (.int .u8 0), (.int .u8 0), (.int .u8 0), (.int .u8 0), (.int .u8 0), (.int .u8 0), (.int .u8 0), (.int .u8 0), (.int .u8 0), (.int .u8 0), (.int .u8 0), (.int .u8 0), (.int .u8 0), (.int .u8 0), (.int .u8 0), (.int .u8 0), (.int .u8 0), (.int .u8 0), (.int .u8 0), (.int .u8 0), (.int .u8 0)] ((List.range 256).map fun j => (j * 1, 1)) := .array (za := #[(.int .u8 0), (.int .u8 0), (.int .u8 0), (.int .u8 0), (.int .u8 0), (.int .u8 0), (.int .u8 0), (.int .u8 0), (.int .u8 0), (.int .u8 0), (.int .u8 0), (.int .u8 0), (.int .u8 0), (.int .u8 0), (.int .u8 0), (.int .u8 0), (.int .u8 0), (.int .u8 0), (.int .u8 0), (.int .u8 0), (.int .u8 0), (.int .u8 0), (.int .u8 0), (.int .u8 0), (.int .u8 0), (.int .u8 0), (.int .u8 0), (.int .u8 0), (.int .u8 0), (.int .u8 0), (.int .u8 0), (.int .u8 0), (.int .u8 0), (.int .u8 0), (.int .u8 0), (.int .u8 0), (.int .u8 0), (.int .u8 0), (.int .u8 0), (.int .u8 0), (.int .u8 0), (.int .u8 0), (.int .u8 0), (.int .u8 0), (.int .u8 0), (.int .u8 0), (.int .u8 0), (.int .u8 0), (.int .u8 0), (.int .u8 0), (.int .u8 0), (.int .u8 0), (.int .u8 0), (.int .u8 0), (.int .u8 0), (.int .u8 0), (.int .u8 0), (.int .u8 0), (.int .u8 0), (.int .u8 0), (.int .u8 0), (.int .u8 0), (.int .u8 0), (.int .u8 0), (.int .u8 0), (.int .u8 0), (.int .u8 0), (.int .u8 0), (.int .u8 0), (.int .u8 0), (.int .u8 0), (.int .u8 0), (.int .u8 0), (.int .u8 0), (.int .u8 0), (.int .u8 0), (.int .u8 0), (.int .u8 0), (.int .u8 0), (.int .u8 0), (.int .u8 0), (.int .u8 0), (.int .u8 0), (.int .u8 0), (.int .u8 0), (.int .u8 0), (.int .u8 0), (.int .u8 0), (.int .u8 0), (.int .u8 0), (.int .u8 0), (.int .u8 0), (.int .u8 0), (.int .u8 0), (.int .u8 0), (.int .u8 0), (.int .u8 0), (.int .u8 0), (.int .u8 0), (.int .u8 0), (.int .u8 0), (.int .u8 0), (.int .u8 0), (.int .u8 0), (.int .u8 0), (.int .u8 0), (.int .u8 0), (.int .u8 0), (.int .u8 0), (.int .u8 0), (.int .u8 0), (.int .u8 0), (.int .u8 0), (.int .u8 0), (.int .u8 0), (.int .u8 0), (.int .u8 0), (.int .u8 0), (.int .u8 0), (.int .u8 0), (.int .u8 0), (.int .u8 0), (.int .u8 0), (.int .u8 0), (.int .u8 0), (.int .u8 0), (.int .u8 0), (.int .u8 0), (.int .u8 0), (.int .u8 0), (.int .u8 0), (.int .u8 0), (.int .u8 0), (.int .u8 0), (.int .u8 0), (.int .u8 0), (.int .u8 0), (.int .u8 0), (.int .u8 0), (.int .u8 0), (.int .u8 0), (.int .u8 0), (.int .u8 0), (.int .u8 0), (.int .u8 0), (.int .u8 0), (.int .u8 0), (.int .u8 0), (.int .u8 0), (.int .u8 0), (.int .u8 0), (.int .u8 0), (.int .u8 0), (.int .u8 0), (.int .u8 0), (.int .u8 0), (.int .u8 0), (.int .u8 0), (.int .u8 0), (.int .u8 0), (.int .u8 0), (.int .u8 0), (.int .u8 0), (.int .u8 0), (.int .u8 0), (.int .u8 0), (.int .u8 0), (.int .u8 0), (.int .u8 0), (.int .u8 0), (.int .u8 0), (.int .u8 0), (.int .u8 0), (.int .u8 0), (.int .u8 0), (.int .u8 0), (.int .u8 0), (.int .u8 0), (.int .u8 0), (.int .u8 0), (.int .u8 0), (.int .u8 0), (.int .u8 0), (.int .u8 0), (.int .u8 0), (.int .u8 0), (.int .u8 0), (.int .u8 0), (.int .u8 0), (.int .u8 0), (.int .u8 0), (.int .u8 0), (.int .u8 0), (.int .u8 0), (.int .u8 0), (.int .u8 0), (.int .u8 0), (.int .u8 0), (.int .u8 0), (.int .u8 0), (.int .u8 0), (.int .u8 0), (.int .u8 0), (.int .u8 0), (.int .u8 0), (.int .u8 0), (.int .u8 0), (.int .u8 0), (.int .u8 0), (.int .u8 0), (.int .u8 0), (.int .u8 0), (.int .u8 0), (.int .u8 0), (.int .u8 0), (.int .u8 0), (.int .u8 0), (.int .u8 0), (.int .u8 0), (.int .u8 0), (.int .u8 0), (.int .u8 0), (.int .u8 0), (.int .u8 0), (.int .u8 0), (.int .u8 0), (.int .u8 0), (.int .u8 0), (.int .u8 0), (.int .u8 0), (.int .u8 0), (.int .u8 0), (.int .u8 0), (.int .u8 0), (.int .u8 0), (.int .u8 0), (.int .u8 0), (.int .u8 0), (.int .u8 0), (.int .u8 0), (.int .u8 0), (.int .u8 0), (.int .u8 0), (.int .u8 0), (.int .u8 0), (.int .u8 0), (.int .u8 0), (.int .u8 0), (.int .u8 0), (.int .u8 0), (.int .u8 0), (.int .u8 0), (.int .u8 0), (.int .u8 0), (.int .u8 0), (.int .u8 0)]) Tryz.underlying152 Ty.zero152 (by kernel_rfl) Ty.size5 (by kernel_rfl)
instance : TyA Tryz.prog 154 true := ⟨_, Tryz.underlying154, rfl⟩
instance : TyS Tryz.prog 154 2 := ⟨Ty.size154⟩
instance : BldI Tryz.prog 154 [(.int .u8 0), (.int .u8 0)] [(0, 1), (1, 1)] := .struct (za := #[(.int .u8 0), (.int .u8 0)]) Tryz.underlying154 Ty.zero154 (by kernel_rfl) (by kernel_rfl) (by kernel_rfl) (by kernel_rfl)
instance : TyF Tryz.prog 154 0 5 0 1 false := ⟨_, _, _, Tryz.underlying154, rfl, rfl, rfl, Ty.size5, Tryz.underlying5, rfl⟩
instance : TyF Tryz.prog 154 1 5 1 1 false := ⟨_, _, _, Tryz.underlying154, rfl, rfl, rfl, Ty.size5, Tryz.underlying5, rfl⟩
instance : TyU Tryz.prog 155 (.array 16 154) := ⟨Tryz.underlying155⟩
instance : TyA Tryz.prog 155 true := ⟨_, Tryz.underlying155, rfl⟩
instance : TyS Tryz.prog 155 32 := ⟨Ty.size155⟩
instance : BldI Tryz.prog 155 [(.int .u8 0), (.int .u8 0), (.int .u8 0), (.int .u8 0), (.int .u8 0), (.int .u8 0), (.int .u8 0), (.int .u8 0), (.int .u8 0), (.int .u8 0), (.int .u8 0), (.int .u8 0), (.int .u8 0), (.int .u8 0), (.int .u8 0), (.int .u8 0), (.int .u8 0), (.int .u8 0), (.int .u8 0), (.int .u8 0), (.int .u8 0), (.int .u8 0), (.int .u8 0), (.int .u8 0), (.int .u8 0), (.int .u8 0), (.int .u8 0), (.int .u8 0), (.int .u8 0), (.int .u8 0), (.int .u8 0), (.int .u8 0)] ((List.range 16).map fun j => (j * 2, 2)) := .array (za := #[(.int .u8 0), (.int .u8 0), (.int .u8 0), (.int .u8 0), (.int .u8 0), (.int .u8 0), (.int .u8 0), (.int .u8 0), (.int .u8 0), (.int .u8 0), (.int .u8 0), (.int .u8 0), (.int .u8 0), (.int .u8 0), (.int .u8 0), (.int .u8 0), (.int .u8 0), (.int .u8 0), (.int .u8 0), (.int .u8 0), (.int .u8 0), (.int .u8 0), (.int .u8 0), (.int .u8 0), (.int .u8 0), (.int .u8 0), (.int .u8 0), (.int .u8 0), (.int .u8 0), (.int .u8 0), (.int .u8 0), (.int .u8 0)]) Tryz.underlying155 Ty.zero155 (by kernel_rfl) Ty.size154 (by kernel_rfl)
instance : TyU Tryz.prog 158 (.array 32 5) := ⟨Tryz.underlying158⟩
instance : TyA Tryz.prog 158 true := ⟨_, Tryz.underlying158, rfl⟩
instance : TyS Tryz.prog 158 32 := ⟨Ty.size158⟩
instance : BldI Tryz.prog 158 [(.int .u8 0), (.int .u8 0), (.int .u8 0), (.int .u8 0), (.int .u8 0), (.int .u8 0), (.int .u8 0), (.int .u8 0), (.int .u8 0), (.int .u8 0), (.int .u8 0), (.int .u8 0), (.int .u8 0), (.int .u8 0), (.int .u8 0), (.int .u8 0), (.int .u8 0), (.int .u8 0), (.int .u8 0), (.int .u8 0), (.int .u8 0), (.int .u8 0), (.int .u8 0), (.int .u8 0), (.int .u8 0), (.int .u8 0), (.int .u8 0), (.int .u8 0), (.int .u8 0), (.int .u8 0), (.int .u8 0), (.int .u8 0)] ((List.range 32).map fun j => (j * 1, 1)) := .array (za := #[(.int .u8 0), (.int .u8 0), (.int .u8 0), (.int .u8 0), (.int .u8 0), (.int .u8 0), (.int .u8 0), (.int .u8 0), (.int .u8 0), (.int .u8 0), (.int .u8 0), (.int .u8 0), (.int .u8 0), (.int .u8 0), (.int .u8 0), (.int .u8 0), (.int .u8 0), (.int .u8 0), (.int .u8 0), (.int .u8 0), (.int .u8 0), (.int .u8 0), (.int .u8 0), (.int .u8 0), (.int .u8 0), (.int .u8 0), (.int .u8 0), (.int .u8 0), (.int .u8 0), (.int .u8 0), (.int .u8 0), (.int .u8 0)]) Tryz.underlying158 Ty.zero158 (by kernel_rfl) Ty.size5 (by kernel_rfl)
instance : TyU Tryz.prog 159 (.array 64 5) := ⟨Tryz.underlying159⟩
instance : TyA Tryz.prog 159 true := ⟨_, Tryz.underlying159, rfl⟩
instance : TyS Tryz.prog 159 64 := ⟨Ty.size159⟩
instance : BldI Tryz.prog 159 [(.int .u8 0), (.int .u8 0), (.int .u8 0), (.int .u8 0), (.int .u8 0), (.int .u8 0), (.int .u8 0), (.int .u8 0), (.int .u8 0), (.int .u8 0), (.int .u8 0), (.int .u8 0), (.int .u8 0), (.int .u8 0), (.int .u8 0), (.int .u8 0), (.int .u8 0), (.int .u8 0), (.int .u8 0), (.int .u8 0), (.int .u8 0), (.int .u8 0), (.int .u8 0), (.int .u8 0), (.int .u8 0), (.int .u8 0), (.int .u8 0), (.int .u8 0), (.int .u8 0), (.int .u8 0), (.int .u8 0), (.int .u8 0), (.int .u8 0), (.int .u8 0), (.int .u8 0), (.int .u8 0), (.int .u8 0), (.int .u8 0), (.int .u8 0), (.int .u8 0), (.int .u8 0), (.int .u8 0), (.int .u8 0), (.int .u8 0), (.int .u8 0), (.int .u8 0), (.int .u8 0), (.int .u8 0), (.int .u8 0), (.int .u8 0), (.int .u8 0), (.int .u8 0), (.int .u8 0), (.int .u8 0), (.int .u8 0), (.int .u8 0), (.int .u8 0), (.int .u8 0), (.int .u8 0), (.int .u8 0), (.int .u8 0), (.int .u8 0), (.int .u8 0), (.int .u8 0)] ((List.range 64).map fun j => (j * 1, 1)) := .array (za := #[(.int .u8 0), (.int .u8 0), (.int .u8 0), (.int .u8 0), (.int .u8 0), (.int .u8 0), (.int .u8 0), (.int .u8 0), (.int .u8 0), (.int .u8 0), (.int .u8 0), (.int .u8 0), (.int .u8 0), (.int .u8 0), (.int .u8 0), (.int .u8 0), (.int .u8 0), (.int .u8 0), (.int .u8 0), (.int .u8 0), (.int .u8 0), (.int .u8 0), (.int .u8 0), (.int .u8 0), (.int .u8 0), (.int .u8 0), (.int .u8 0), (.int .u8 0), (.int .u8 0), (.int .u8 0), (.int .u8 0), (.int .u8 0), (.int .u8 0), (.int .u8 0), (.int .u8 0), (.int .u8 0), (.int .u8 0), (.int .u8 0), (.int .u8 0), (.int .u8 0), (.int .u8 0), (.int .u8 0), (.int .u8 0), (.int .u8 0), (.int .u8 0), (.int .u8 0), (.int .u8 0), (.int .u8 0), (.int .u8 0), (.int .u8 0), (.int .u8 0), (.int .u8 0), (.int .u8 0), (.int .u8 0), (.int .u8 0), (.int .u8 0), (.int .u8 0), (.int .u8 0), (.int .u8 0), (.int .u8 0), (.int .u8 0), (.int .u8 0), (.int .u8 0), (.int .u8 0)]) Tryz.underlying159 Ty.zero159 (by kernel_rfl) Ty.size5 (by kernel_rfl)
instance : AppI Tryz.prog 33 33 8 88 := .of (z := (.agg #[(.int .i64 0), (.string ⟨#[]⟩), (.string ⟨#[]⟩), (.int .i64 0), (.int .i64 0), (.bool false), (.string ⟨#[]⟩), (.int .i64 0)])) Tryz.underlying33 (.inr ⟨_, Tryz.underlying33⟩) Ty.size49 (by kernel_rfl) Ty.zero49 rfl (by decide)
instance : AppI Tryz.prog 32 32 1 8 := .of (z := (.int .i64 0)) Tryz.underlying32 (.inr ⟨_, Tryz.underlying32⟩) Ty.size3 (by kernel_rfl) Ty.zero3 rfl (by decide)
instance : AppI Tryz.prog 22 22 10 144 := .of (z := (.agg #[(.int .i64 0), (.string ⟨#[]⟩), (.string ⟨#[]⟩), (.string ⟨#[]⟩), (.int .i64 0), (.int .i64 0), (.int .i64 0), (.slice none 0 0), (.slice none 0 0), (.string ⟨#[]⟩)])) Tryz.underlying22 (.inr ⟨_, Tryz.underlying22⟩) Ty.size35 (by kernel_rfl) Ty.zero35 rfl (by decide)
instance : AppI Tryz.prog 25 9 1 1 := .of (z := (.int .u8 0)) Tryz.underlying25 (.inl Tryz.underlying9) Ty.size5 (by kernel_rfl) Ty.zero5 rfl (by decide)
instance : AppI Tryz.prog 56 56 1 16 := .of (z := (.string ⟨#[]⟩)) Tryz.underlying56 (.inr ⟨_, Tryz.underlying56⟩) Ty.size9 (by kernel_rfl) Ty.zero9 rfl (by decide)
instance : AppI Tryz.prog 25 25 1 1 := .of (z := (.int .u8 0)) Tryz.underlying25 (.inr ⟨_, Tryz.underlying25⟩) Ty.size5 (by kernel_rfl) Ty.zero5 rfl (by decide)
instance : OwnF Tryz.prog 2 := ⟨_, Tryz.func2, by kernel_rfl, by kernel_rfl⟩
instance : OwnF Tryz.prog 3 := ⟨_, Tryz.func3, by kernel_rfl, by kernel_rfl⟩
instance : OwnF Tryz.prog 4 := ⟨_, Tryz.func4, by kernel_rfl, by kernel_rfl⟩
instance : OwnF Tryz.prog 5 := ⟨_, Tryz.func5, by kernel_rfl, by kernel_rfl⟩
instance : OwnF Tryz.prog 6 := ⟨_, Tryz.func6, by kernel_rfl, by kernel_rfl⟩
instance : OwnF Tryz.prog 7 := ⟨_, Tryz.func7, by kernel_rfl, by kernel_rfl⟩
instance : OwnF Tryz.prog 8 := ⟨_, Tryz.func8, by kernel_rfl, by kernel_rfl⟩
instance : OwnF Tryz.prog 9 := ⟨_, Tryz.func9, by kernel_rfl, by kernel_rfl⟩
instance : OwnF Tryz.prog 10 := ⟨_, Tryz.func10, by kernel_rfl, by kernel_rfl⟩
instance : OwnF Tryz.prog 11 := ⟨_, Tryz.func11, by kernel_rfl, by kernel_rfl⟩
instance : OwnF Tryz.prog 12 := ⟨_, Tryz.func12, by kernel_rfl, by kernel_rfl⟩
instance : OwnF Tryz.prog 13 := ⟨_, Tryz.func13, by kernel_rfl, by kernel_rfl⟩
instance : OwnF Tryz.prog 14 := ⟨_, Tryz.func14, by kernel_rfl, by kernel_rfl⟩
instance : OwnF Tryz.prog 15 := ⟨_, Tryz.func15, by kernel_rfl, by kernel_rfl⟩
instance : OwnF Tryz.prog 16 := ⟨_, Tryz.func16, by kernel_rfl, by kernel_rfl⟩
instance : OwnF Tryz.prog 17 := ⟨_, Tryz.func17, by kernel_rfl, by kernel_rfl⟩
instance : OwnF Tryz.prog 18 := ⟨_, Tryz.func18, by kernel_rfl, by kernel_rfl⟩
instance : OwnF Tryz.prog 19 := ⟨_, Tryz.func19, by kernel_rfl, by kernel_rfl⟩
instance : OwnF Tryz.prog 20 := ⟨_, Tryz.func20, by kernel_rfl, by kernel_rfl⟩
instance : OwnF Tryz.prog 21 := ⟨_, Tryz.func21, by kernel_rfl, by kernel_rfl⟩
instance : OwnF Tryz.prog 22 := ⟨_, Tryz.func22, by kernel_rfl, by kernel_rfl⟩
instance : OwnF Tryz.prog 23 := ⟨_, Tryz.func23, by kernel_rfl, by kernel_rfl⟩
instance : OwnF Tryz.prog 24 := ⟨_, Tryz.func24, by kernel_rfl, by kernel_rfl⟩
instance : OwnF Tryz.prog 25 := ⟨_, Tryz.func25, by kernel_rfl, by kernel_rfl⟩
instance : OwnF Tryz.prog 26 := ⟨_, Tryz.func26, by kernel_rfl, by kernel_rfl⟩
instance : OwnF Tryz.prog 27 := ⟨_, Tryz.func27, by kernel_rfl, by kernel_rfl⟩
instance : OwnF Tryz.prog 28 := ⟨_, Tryz.func28, by kernel_rfl, by kernel_rfl⟩
instance : OwnF Tryz.prog 29 := ⟨_, Tryz.func29, by kernel_rfl, by kernel_rfl⟩
instance : OwnF Tryz.prog 30 := ⟨_, Tryz.func30, by kernel_rfl, by kernel_rfl⟩
instance : OwnF Tryz.prog 31 := ⟨_, Tryz.func31, by kernel_rfl, by kernel_rfl⟩
instance : OwnF Tryz.prog 32 := ⟨_, Tryz.func32, by kernel_rfl, by kernel_rfl⟩
instance : OwnF Tryz.prog 33 := ⟨_, Tryz.func33, by kernel_rfl, by kernel_rfl⟩
instance : OwnF Tryz.prog 34 := ⟨_, Tryz.func34, by kernel_rfl, by kernel_rfl⟩
instance : OwnF Tryz.prog 35 := ⟨_, Tryz.func35, by kernel_rfl, by kernel_rfl⟩
instance : OwnF Tryz.prog 36 := ⟨_, Tryz.func36, by kernel_rfl, by kernel_rfl⟩
instance : OwnF Tryz.prog 37 := ⟨_, Tryz.func37, by kernel_rfl, by kernel_rfl⟩
instance : OwnF Tryz.prog 38 := ⟨_, Tryz.func38, by kernel_rfl, by kernel_rfl⟩
instance : OwnF Tryz.prog 39 := ⟨_, Tryz.func39, by kernel_rfl, by kernel_rfl⟩
instance : OwnF Tryz.prog 40 := ⟨_, Tryz.func40, by kernel_rfl, by kernel_rfl⟩
instance : OwnF Tryz.prog 41 := ⟨_, Tryz.func41, by kernel_rfl, by kernel_rfl⟩
instance : OwnF Tryz.prog 42 := ⟨_, Tryz.func42, by kernel_rfl, by kernel_rfl⟩
instance : OwnF Tryz.prog 43 := ⟨_, Tryz.func43, by kernel_rfl, by kernel_rfl⟩
instance : OwnF Tryz.prog 44 := ⟨_, Tryz.func44, by kernel_rfl, by kernel_rfl⟩
instance : OwnF Tryz.prog 45 := ⟨_, Tryz.func45, by kernel_rfl, by kernel_rfl⟩
instance : OwnF Tryz.prog 46 := ⟨_, Tryz.func46, by kernel_rfl, by kernel_rfl⟩
instance : OwnF Tryz.prog 47 := ⟨_, Tryz.func47, by kernel_rfl, by kernel_rfl⟩
instance : OwnF Tryz.prog 48 := ⟨_, Tryz.func48, by kernel_rfl, by kernel_rfl⟩
instance : OwnF Tryz.prog 50 := ⟨_, Tryz.func50, by kernel_rfl, by kernel_rfl⟩
instance : OwnF Tryz.prog 51 := ⟨_, Tryz.func51, by kernel_rfl, by kernel_rfl⟩
instance : OwnF Tryz.prog 52 := ⟨_, Tryz.func52, by kernel_rfl, by kernel_rfl⟩
instance : OwnF Tryz.prog 53 := ⟨_, Tryz.func53, by kernel_rfl, by kernel_rfl⟩
instance : OwnF Tryz.prog 54 := ⟨_, Tryz.func54, by kernel_rfl, by kernel_rfl⟩
instance : OwnF Tryz.prog 55 := ⟨_, Tryz.func55, by kernel_rfl, by kernel_rfl⟩
instance : OwnF Tryz.prog 56 := ⟨_, Tryz.func56, by kernel_rfl, by kernel_rfl⟩
instance : OwnF Tryz.prog 57 := ⟨_, Tryz.func57, by kernel_rfl, by kernel_rfl⟩
instance : OwnF Tryz.prog 58 := ⟨_, Tryz.func58, by kernel_rfl, by kernel_rfl⟩
instance : OwnF Tryz.prog 59 := ⟨_, Tryz.func59, by kernel_rfl, by kernel_rfl⟩
instance : OwnF Tryz.prog 60 := ⟨_, Tryz.func60, by kernel_rfl, by kernel_rfl⟩
instance : OwnF Tryz.prog 61 := ⟨_, Tryz.func61, by kernel_rfl, by kernel_rfl⟩
instance : OwnF Tryz.prog 62 := ⟨_, Tryz.func62, by kernel_rfl, by kernel_rfl⟩
instance : OwnF Tryz.prog 63 := ⟨_, Tryz.func63, by kernel_rfl, by kernel_rfl⟩
instance : OwnF Tryz.prog 64 := ⟨_, Tryz.func64, by kernel_rfl, by kernel_rfl⟩
instance : OwnF Tryz.prog 65 := ⟨_, Tryz.func65, by kernel_rfl, by kernel_rfl⟩
instance : OwnF Tryz.prog 66 := ⟨_, Tryz.func66, by kernel_rfl, by kernel_rfl⟩
instance : OwnF Tryz.prog 67 := ⟨_, Tryz.func67, by kernel_rfl, by kernel_rfl⟩
instance : OwnF Tryz.prog 68 := ⟨_, Tryz.func68, by kernel_rfl, by kernel_rfl⟩
instance : OwnF Tryz.prog 69 := ⟨_, Tryz.func69, by kernel_rfl, by kernel_rfl⟩
instance : OwnF Tryz.prog 70 := ⟨_, Tryz.func70, by kernel_rfl, by kernel_rfl⟩
instance : OwnF Tryz.prog 71 := ⟨_, Tryz.func71, by kernel_rfl, by kernel_rfl⟩
instance : OwnF Tryz.prog 72 := ⟨_, Tryz.func72, by kernel_rfl, by kernel_rfl⟩
instance : OwnF Tryz.prog 73 := ⟨_, Tryz.func73, by kernel_rfl, by kernel_rfl⟩
instance : OwnF Tryz.prog 74 := ⟨_, Tryz.func74, by kernel_rfl, by kernel_rfl⟩
instance : OwnF Tryz.prog 75 := ⟨_, Tryz.func75, by kernel_rfl, by kernel_rfl⟩
instance : OwnF Tryz.prog 76 := ⟨_, Tryz.func76, by kernel_rfl, by kernel_rfl⟩
instance : OwnF Tryz.prog 77 := ⟨_, Tryz.func77, by kernel_rfl, by kernel_rfl⟩
instance : OwnF Tryz.prog 78 := ⟨_, Tryz.func78, by kernel_rfl, by kernel_rfl⟩
instance : OwnF Tryz.prog 79 := ⟨_, Tryz.func79, by kernel_rfl, by kernel_rfl⟩
instance : OwnF Tryz.prog 80 := ⟨_, Tryz.func80, by kernel_rfl, by kernel_rfl⟩
instance : OwnF Tryz.prog 81 := ⟨_, Tryz.func81, by kernel_rfl, by kernel_rfl⟩
instance : OwnF Tryz.prog 82 := ⟨_, Tryz.func82, by kernel_rfl, by kernel_rfl⟩
instance : OwnF Tryz.prog 83 := ⟨_, Tryz.func83, by kernel_rfl, by kernel_rfl⟩
instance : OwnF Tryz.prog 84 := ⟨_, Tryz.func84, by kernel_rfl, by kernel_rfl⟩
instance : OwnF Tryz.prog 85 := ⟨_, Tryz.func85, by kernel_rfl, by kernel_rfl⟩
instance : OwnF Tryz.prog 86 := ⟨_, Tryz.func86, by kernel_rfl, by kernel_rfl⟩
instance : OwnF Tryz.prog 87 := ⟨_, Tryz.func87, by kernel_rfl, by kernel_rfl⟩
instance : OwnF Tryz.prog 88 := ⟨_, Tryz.func88, by kernel_rfl, by kernel_rfl⟩
instance : OwnF Tryz.prog 89 := ⟨_, Tryz.func89, by kernel_rfl, by kernel_rfl⟩
instance : OwnF Tryz.prog 90 := ⟨_, Tryz.func90, by kernel_rfl, by kernel_rfl⟩
instance : OwnF Tryz.prog 91 := ⟨_, Tryz.func91, by kernel_rfl, by kernel_rfl⟩
instance : OwnF Tryz.prog 92 := ⟨_, Tryz.func92, by kernel_rfl, by kernel_rfl⟩
instance : OwnF Tryz.prog 93 := ⟨_, Tryz.func93, by kernel_rfl, by kernel_rfl⟩
instance : OwnF Tryz.prog 94 := ⟨_, Tryz.func94, by kernel_rfl, by kernel_rfl⟩
instance : OwnF Tryz.prog 95 := ⟨_, Tryz.func95, by kernel_rfl, by kernel_rfl⟩
instance : OwnF Tryz.prog 96 := ⟨_, Tryz.func96, by kernel_rfl, by kernel_rfl⟩
instance : OwnF Tryz.prog 97 := ⟨_, Tryz.func97, by kernel_rfl, by kernel_rfl⟩
instance : OwnF Tryz.prog 98 := ⟨_, Tryz.func98, by kernel_rfl, by kernel_rfl⟩
instance : OwnF Tryz.prog 99 := ⟨_, Tryz.func99, by kernel_rfl, by kernel_rfl⟩
instance : OwnF Tryz.prog 100 := ⟨_, Tryz.func100, by kernel_rfl, by kernel_rfl⟩
instance : OwnF Tryz.prog 101 := ⟨_, Tryz.func101, by kernel_rfl, by kernel_rfl⟩
instance : OwnF Tryz.prog 102 := ⟨_, Tryz.func102, by kernel_rfl, by kernel_rfl⟩
instance : OwnF Tryz.prog 103 := ⟨_, Tryz.func103, by kernel_rfl, by kernel_rfl⟩
instance : OwnF Tryz.prog 104 := ⟨_, Tryz.func104, by kernel_rfl, by kernel_rfl⟩
instance : OwnF Tryz.prog 105 := ⟨_, Tryz.func105, by kernel_rfl, by kernel_rfl⟩
instance : OwnF Tryz.prog 106 := ⟨_, Tryz.func106, by kernel_rfl, by kernel_rfl⟩
instance : OwnF Tryz.prog 107 := ⟨_, Tryz.func107, by kernel_rfl, by kernel_rfl⟩
instance : OwnF Tryz.prog 108 := ⟨_, Tryz.func108, by kernel_rfl, by kernel_rfl⟩
instance : OwnF Tryz.prog 109 := ⟨_, Tryz.func109, by kernel_rfl, by kernel_rfl⟩
instance : OwnF Tryz.prog 110 := ⟨_, Tryz.func110, by kernel_rfl, by kernel_rfl⟩
instance : OwnF Tryz.prog 111 := ⟨_, Tryz.func111, by kernel_rfl, by kernel_rfl⟩
instance : OwnF Tryz.prog 112 := ⟨_, Tryz.func112, by kernel_rfl, by kernel_rfl⟩
instance : OwnF Tryz.prog 113 := ⟨_, Tryz.func113, by kernel_rfl, by kernel_rfl⟩
instance : OwnF Tryz.prog 114 := ⟨_, Tryz.func114, by kernel_rfl, by kernel_rfl⟩
instance : OwnF Tryz.prog 115 := ⟨_, Tryz.func115, by kernel_rfl, by kernel_rfl⟩
instance : OwnF Tryz.prog 116 := ⟨_, Tryz.func116, by kernel_rfl, by kernel_rfl⟩
instance : OwnF Tryz.prog 117 := ⟨_, Tryz.func117, by kernel_rfl, by kernel_rfl⟩
instance : OwnF Tryz.prog 118 := ⟨_, Tryz.func118, by kernel_rfl, by kernel_rfl⟩
instance : OwnF Tryz.prog 119 := ⟨_, Tryz.func119, by kernel_rfl, by kernel_rfl⟩
instance : OwnF Tryz.prog 122 := ⟨_, Tryz.func122, by kernel_rfl, by kernel_rfl⟩
instance : OwnF Tryz.prog 124 := ⟨_, Tryz.func124, by kernel_rfl, by kernel_rfl⟩
instance : OwnF Tryz.prog 125 := ⟨_, Tryz.func125, by kernel_rfl, by kernel_rfl⟩
instance : OwnF Tryz.prog 126 := ⟨_, Tryz.func126, by kernel_rfl, by kernel_rfl⟩
instance : OwnF Tryz.prog 127 := ⟨_, Tryz.func127, by kernel_rfl, by kernel_rfl⟩
instance : OwnF Tryz.prog 128 := ⟨_, Tryz.func128, by kernel_rfl, by kernel_rfl⟩
instance : OwnF Tryz.prog 129 := ⟨_, Tryz.func129, by kernel_rfl, by kernel_rfl⟩
instance : OwnF Tryz.prog 130 := ⟨_, Tryz.func130, by kernel_rfl, by kernel_rfl⟩
instance : OwnF Tryz.prog 131 := ⟨_, Tryz.func131, by kernel_rfl, by kernel_rfl⟩
instance : OwnF Tryz.prog 132 := ⟨_, Tryz.func132, by kernel_rfl, by kernel_rfl⟩
instance : OwnF Tryz.prog 133 := ⟨_, Tryz.func133, by kernel_rfl, by kernel_rfl⟩
instance : OwnF Tryz.prog 135 := ⟨_, Tryz.func135, by kernel_rfl, by kernel_rfl⟩
instance : OwnF Tryz.prog 136 := ⟨_, Tryz.func136, by kernel_rfl, by kernel_rfl⟩
instance : OwnF Tryz.prog 138 := ⟨_, Tryz.func138, by kernel_rfl, by kernel_rfl⟩
instance : OwnF Tryz.prog 139 := ⟨_, Tryz.func139, by kernel_rfl, by kernel_rfl⟩
instance : OwnF Tryz.prog 169 := ⟨_, Tryz.func169, by kernel_rfl, by kernel_rfl⟩
end Go.Proofs.YtgliemhhnkhboaaGreatDoor.Ty
end
section
set_option linter.unusedVariables false
set_option linter.unusedSimpArgs false
set_option maxRecDepth 100000
set_option maxHeartbeats 400000
namespace Go.Proofs.YtgliemhhnkhboaaGreatDoor
open Go.Al Go.RowKit
def numB (n : Nat) : List UInt8 := if n < 128 then [UInt8.ofNat n] else UInt8.ofNat (128 + n % 128) :: numB (n / 128)
termination_by n
def clampN (n : Int) : Nat := (max 0 (min n 9007199254740992)).toNat
theorem clampN_le (n : Int) : clampN n ≤ 9007199254740992 := by unfold clampN; omega
theorem numB_small {n : Nat} (h : n < 128) : numB n = [UInt8.ofNat n] := by rw [numB, if_pos h]
theorem numB_big {n : Nat} (h : ¬ n < 128) : numB n = UInt8.ofNat (128 + n % 128) :: numB (n / 128) := by rw [numB, if_neg h]
def num (n : Int) : List UInt8 := numB (clampN n)
theorem numB_len : ∀ (k n : Nat), n < 128 ^ (k + 1) → (numB n).length ≤ k + 1 := by
  intro k
  induction k with
  | zero => intro n h; rw [numB_small (by simpa using h)]; simp
  | succ k ih =>
    intro n h
    by_cases hn : n < 128
    · rw [numB_small hn]; simp
    · rw [numB_big hn]
      have := ih (n / 128) (by rw [Nat.pow_succ] at h; omega)
      simp; omega
theorem byteOf_nat (n : Nat) : Al.byteOf n = UInt8.ofNat n := by
  simp only [Al.byteOf]
  have : ((n : Int) % 256).toNat = n % 256 := by omega
  rw [this]
  apply UInt8.toNat_inj.1
  simp
theorem num_len (n : Int) : (num n).length ≤ 8 := numB_len 7 _ (by have := clampN_le n; omega)
def txt (s : List UInt8) : List UInt8 := num s.length ++ s
end Go.Proofs.YtgliemhhnkhboaaGreatDoor
end
section
set_option linter.unusedVariables false
set_option linter.unusedSimpArgs false
set_option maxRecDepth 100000
set_option maxHeartbeats 400000
namespace Go.Proofs.YtgliemhhnkhboaaGreatDoor
open Go.Al Go.RowKit
structure Laid (w : World) : Prop where
  tab : Lib.TabIs Tryz.prog w "internal/strconv.uint64pow10" .u64 Lib.pow10Tab
  syn : ∃ t p, w.cell? ⟨0, 0, none⟩ = some (.iface t p)
  rng : ∃ t p, w.cell? ⟨1, 0, none⟩ = some (.iface t p)
theorem laid_below {w0 w : World} (h : Laid w0) (hb : Below w0.heap.size w0 w) : Laid w :=
  ⟨Lib.tabBelow_of_tabIs h.tab w hb, h.syn.imp fun _ h => h.imp fun _ h => cell_below hb (Nat.le_refl _) h, h.rng.imp fun _ h => h.imp fun _ h => cell_below hb (Nat.le_refl _) h⟩
instance : OwnF Tryz.prog 63 := ⟨_, Tryz.func63, by kernel_rfl, by kernel_rfl⟩
instance : OwnF Tryz.prog 64 := ⟨_, Tryz.func64, by kernel_rfl, by kernel_rfl⟩
instance : OwnF Tryz.prog 44 := ⟨_, Tryz.func44, by kernel_rfl, by kernel_rfl⟩
theorem itoa_any (w0 : Base) (hL : Laid w0) (n : Int) (h0 : -9223372036854775808 ≤ n) (h1 : n ≤ 9223372036854775807) : CallP Tryz.prog w0 63 [.int .i64 n] (.str (Lib.itoa n)) := .told fun G w vs hb hr => by
  cases hr with
  | cons h t =>
    cases t
    cases h
    exact ⟨_, fun w' => .str _, (Tryz.strconv_Itoa n h0 h1 w (laid_below hL hb).tab).mono fun e w' ⟨he, k, os, hw⟩ => ⟨he, hw ▸ Lib.below_grow _ w (Nat.le_refl _) k os⟩⟩
theorem repeat_any (w0 : Base) (s : List UInt8) (c : Nat) (hc : c ≤ 1000000) (hs : s.length ≤ 1000000) : CallP Tryz.prog w0 64 [.str s, .int .i64 c] (.str (Lib.repeatL s c)) := .told fun G w vs hb hr => by
  cases hr with
  | cons h t =>
    cases t with
    | cons h2 t =>
    cases t
    cases h
    cases h2
    refine ⟨_, fun w' => .str _, (Tryz.strings_Repeat ⟨s.toArray⟩ c w (by omega) ?_).mono fun e w' ⟨he, hw⟩ => ⟨he, hw⟩⟩
    have : (⟨s.toArray⟩ : ByteArray).size = s.length := by simp [ByteArray.size]
    rw [this]
    have := Nat.mul_le_mul hs hc
    omega
def goAtoi (l : List UInt8) : Int × Bool := match Lib.atoiAll l with
  | .ok v => (v, true)
  | .range => (Lib.atoiSat l, false)
  | _ => (0, false)
def eErr : Bool → AV
  | true => .nilifc
  | false => .ifc 95 .und
theorem bytesWorld_le (w : World) (t : TypeId) (s : ByteArray) (w' : World) (h : w' = w ∨ ∃ u, w' = Lib.bytesWorld w t u) : Below w.heap.size w w' := by
  rcases h with rfl | ⟨u, rfl⟩
  · exact .refl _ _
  · exact Lib.bytesWorld_below w _ _
theorem goAtoi_any (w0 : Base) (hL : Laid w0) (s : List UInt8) (hs : s.length ≤ 1000000000000) : CallP Tryz.prog w0 44 [.str s] (.tup [.int .i64 (goAtoi s).1, eErr (goAtoi s).2]) := .tells fun G w vs hb hr => by
  cases hr with
  | cons h1 t =>
    cases t
    cases h1
    have hL' := laid_below hL hb
    have hsz : (⟨s.toArray⟩ : ByteArray).size = s.length := by simp [ByteArray.size]
    have hl : (⟨s.toArray⟩ : ByteArray).data.toList = s := by simp
    unfold goAtoi
    rcases h : Lib.atoiAll s with v | _ | _
    · refine (Tryz.strconv_Atoi_ok ⟨s.toArray⟩ (by omega) v (by rw [hl]; exact h) w).mono fun e w' ⟨he, hw⟩ => ⟨_, he, .tup (.cons (.int _ _) (.cons .nilifc .nil)), bytesWorld_le w _ ⟨s.toArray⟩ w' hw⟩
    · obtain ⟨ti, p, hc⟩ := hL'.syn
      refine (Any.strconv_Atoi_syntax Tryz.laysC172 ⟨s.toArray⟩ (by omega) (by rw [hl]; exact h) _ w hc (.inr ⟨ti, p, rfl⟩)).mono fun e w' ⟨m, he, _, _, hw⟩ => ⟨_, he, .tup (.cons (.int _ _) (.cons (.ifc (.und _)) .nil)), hw⟩
    · obtain ⟨ti, p, hc⟩ := hL'.rng
      refine (Tryz.strconv_Atoi_range ⟨s.toArray⟩ (by omega) (by rw [hl]; exact h) _ w hc (.inr ⟨ti, p, rfl⟩)).mono fun e w' ⟨m, he, _, _, hw⟩ => ⟨_, he, ?_, hw⟩
      rw [hl]
      exact .tup (.cons (.int _ _) (.cons (.ifc (.und _)) .nil))
theorem goAtoi_ok {s : List UInt8} {n : Int} (hs : s.length ≤ 18) (h : Lib.atoi s = some n) : goAtoi s = (n, true) := by
  rw [goAtoi, Lib.atoiAll_short s hs, h]; rfl
theorem cl_itoa (n : Int) : Lib.itoa (max 0 (min n 9999999999)) = Lib.decDigits (cl n) := by
  unfold Lib.itoa cl
  rw [if_neg (by omega)]
theorem rep_one (c : Nat) : Lib.repeatL [48] c = List.replicate c 48 := by
  have := Lib.repeatL_replicate 48 1 c
  simpa using this
theorem itoaC_any (w0 : Base) (hL : Laid w0) (n : Int) : CallP Tryz.prog w0 63 [.int .i64 (max 0 (min n 9999999999))] (.str (Lib.decDigits (cl n))) := by
  rw [← cl_itoa]
  exact itoa_any w0 hL _ (by omega) (by omega)
theorem repeatC_any (w0 : Base) (a : Nat) (ha : a ≤ 10) : CallP Tryz.prog w0 64 [.str [48], .int .i64 (10 - (a : Int))] (.str (List.replicate (10 - a) 48)) := by
  rw [← rep_one]
  have : (10 - (a : Int)) = ((10 - a : Nat) : Int) := by omega
  rw [this]
  exact repeat_any w0 [48] (10 - a) (by omega) (by simp)
theorem number_any (w0 : Base) (hL : Laid w0) (n : Int) : CallP Tryz.prog w0 45 [.int .i64 n] (.str (dN 10 (cl n))) := by
  refine CallP.start Tryz.func45 rfl Tryz.ntmps45 (by simp) fun σ Q hQ => ?_
  obtain ⟨h1, h2⟩ := dec_pad 9 (cl n) (cl_lt n)
  refine W.seq ?_; refine W.regionL (by decide +kernel) rfl ?_; apply r_op; exact rfl; exact rfl; apply a_assign; (conv => (lhs; whnf)); (with_reducible refine runs_done ?_); refine W.seq ?_; refine W.regionL (by decide +kernel) rfl ?_; apply r_op; exact rfl; exact rfl; apply a_move; (conv => (lhs; whnf)); apply r_op; exact rfl; exact rfl; apply g_call; exact a_min rfl rfl; apply r_op; exact rfl
  exact rfl; apply g_call; exact a_max rfl rfl; apply r_callP; exact rfl; exact rfl; exact rfl; exact rfl; exact rfl; infer_instance; exact itoaC_any w0 hL n; apply r_op; exact rfl; exact rfl; apply a_assign; (conv => (lhs; whnf)); (with_reducible refine runs_done ?_); refine W.seq ?_; refine W.regionL (by decide +kernel) rfl ?_; apply r_op; exact rfl; exact rfl; apply a_move; (conv => (lhs; whnf))
  apply r_op; exact rfl; exact rfl; apply g_call; exact a_len_str rfl; apply r_op; exact rfl; exact rfl; apply g_binOp; exact a_sub64 rfl rfl (by omega); apply r_callP; exact rfl; exact rfl; exact rfl; exact rfl; exact rfl; infer_instance; exact repeatC_any w0 _ h1; apply r_op; exact rfl; exact rfl; apply a_move; (conv => (lhs; whnf)); apply r_op; exact rfl; exact rfl; apply g_binOp
  exact a_addS rfl rfl (by simp only [List.length_replicate, List.length_append, List.length_cons, List.length_nil]; omega); apply r_op; exact rfl; exact rfl; apply a_assign; (conv => (lhs; whnf)); (with_reducible refine runs_done ?_); refine W.ret ?_; show Q Exit.ret _ _; refine post_q hQ (by apply res_tmp; exact rfl; exact res_nil) (.inl rfl) (by exact .refl _) ?_; (conv => (lhs; whnf))
  rw [h2]
theorem key_byte {v : Nat} (hv : v < 10) : Al.byteOf (48 + ((Al.byteOf (max ((v : Int) % 10) (-((v : Int) % 10)))).toNat : Int)) = UInt8.ofNat (48 + v) := by
  have e : max ((v : Int) % 10) (-((v : Int) % 10)) = (v : Nat) := by omega
  rw [e, byteOf_toNat v (by omega)]
  show Al.byteOf ((48 + v : Nat) : Int) = _
  exact byteOf_nat _
theorem keyS_any (w0 : Base) (hL : Laid w0) (v : Nat) (hv : v < 10) (t : UInt8) (id seq : Int) : CallP Tryz.prog w0 22 [.int .i64 v, .int .u8 t.toNat, .int .i64 id, .int .i64 seq] (.str (rkey v t id seq)) := by
  refine CallP.start Tryz.func22 rfl Tryz.ntmps22 (by simp) fun σ Q hQ => ?_
  have hl := dN_length 10 (cl id)
  have hl2 := dN_length 10 (cl seq)
  refine W.seq ?_; refine W.regionL (by decide +kernel) rfl ?_; apply r_op; exact rfl; exact rfl; apply a_assign; (conv => (lhs; whnf)); (with_reducible refine runs_done ?_); refine W.seq ?_; refine W.regionDK 1 [] Ty.mixed (by decide +kernel) (by decide +kernel) rfl ?_; apply r_op; exact rfl; exact rfl; apply a_move; (conv => (lhs; whnf)); apply r_op; exact rfl; exact rfl; apply g_binOp
  exact a_rem rfl rfl (by omega); apply r_op; exact rfl; exact rfl; apply a_move; (conv => (lhs; whnf)); apply r_op; exact rfl; exact rfl; apply g_binOp; exact a_rem rfl rfl (by omega); apply r_op; exact rfl; exact rfl; apply g_unOp; exact a_neg64 rfl (by omega); apply r_op; exact rfl; exact rfl; apply g_call; exact a_max rfl rfl; apply r_op; exact rfl; exact rfl; apply g_convert; exact a_convB rfl
  apply r_op; exact rfl; exact rfl; apply g_binOp; exact a_u8add rfl rfl; apply r_op; exact rfl; exact rfl; apply a_move; (conv => (lhs; whnf)); apply r_op; exact rfl; exact rfl; apply g_buildSlice; apply a_buildN; apply EvP.cons (by (conv => (lhs; whnf))); apply EvP.cons (by (conv => (lhs; whnf))); exact EvP.nil; (conv => (lhs; whnf)); exact rfl; exact rfl; decide; apply r_op; exact rfl; exact rfl
  apply g_convert; exact a_bytesStrX rfl (by apply toB_cons; apply toB_cons; exact toB_nil); apply r_op; exact rfl; exact rfl; apply a_move; (conv => (lhs; whnf)); apply r_callP; exact rfl; exact rfl; exact rfl; exact rfl; exact rfl; infer_instance; exact number_any w0 hL _; apply r_op; exact rfl; exact rfl; apply g_binOp
  exact a_addS rfl rfl (by simp only [List.length_replicate, List.length_append, List.length_cons, List.length_nil]; omega); apply r_op; exact rfl; exact rfl; apply a_move; (conv => (lhs; whnf)); apply r_callP; exact rfl; exact rfl; exact rfl; exact rfl; exact rfl; infer_instance; exact number_any w0 hL _; apply r_op; exact rfl; exact rfl; apply g_binOp
  exact a_addS rfl rfl (by simp only [List.length_replicate, List.length_append, List.length_cons, List.length_nil]; omega); apply r_op; exact rfl; exact rfl; apply a_assign; (conv => (lhs; whnf)); (with_reducible refine runs_done ?_); refine W.ret ?_; show Q Exit.ret _ _; refine post_q hQ (by apply res_tmp; exact rfl; exact res_nil) (.inl rfl) (by exact .refl _) ?_; (conv => (lhs; whnf))
  rw [key_byte hv]; rfl
end Go.Proofs.YtgliemhhnkhboaaGreatDoor
end
section
set_option linter.unusedVariables false
set_option maxRecDepth 100000
namespace Go.Proofs.YtgliemhhnkhboaaGreatDoor.Ty
open Go.Al
theorem ti2 : TI.ok Tryz.prog 2 ⟨.int .i64, 1⟩ := ⟨⟨Tryz.underlying2⟩, ⟨⟨Ty.size2⟩, by kernel_rfl⟩⟩
theorem ti3 : TI.ok Tryz.prog 3 ⟨.int .i64, 1⟩ := ⟨⟨Tryz.underlying3⟩, ⟨⟨Ty.size3⟩, by kernel_rfl⟩⟩
theorem ti4 : TI.ok Tryz.prog 4 ⟨.bool, 1⟩ := ⟨⟨Tryz.underlying4⟩, ⟨⟨Ty.size4⟩, by kernel_rfl⟩⟩
theorem ti5 : TI.ok Tryz.prog 5 ⟨.int .u8, 1⟩ := ⟨⟨Tryz.underlying5⟩, ⟨⟨Ty.size5⟩, by kernel_rfl⟩⟩
theorem ti9 : TI.ok Tryz.prog 9 ⟨.str, 1⟩ := ⟨⟨Tryz.underlying9⟩, ⟨⟨Ty.size9⟩, by kernel_rfl⟩⟩
theorem ti21 : TI.ok Tryz.prog 21 ⟨.int .i32, 1⟩ := ⟨⟨Tryz.underlying21⟩, ⟨⟨Ty.size21⟩, by kernel_rfl⟩⟩
theorem ti22 : TI.ok Tryz.prog 22 ⟨.slc 35 10 false, 1⟩ := ⟨⟨⟨Tryz.underlying22⟩, ⟨⟨Ty.size22⟩, by kernel_rfl⟩⟩, ⟨Ty.size35⟩, (fun h => Bool.noConfusion h), inferInstance⟩
theorem ti24 : TI.ok Tryz.prog 24 ⟨.struct [(0, 1, false), (1, 1, false), (2, 1, false), (3, 1, false)] [(.int .i64 0), (.int .i64 0), (.int .i64 0), .nils], 4⟩ := ⟨⟨⟨_, Tryz.underlying24, rfl⟩, ⟨Ty.size24⟩⟩, ⟨⟨3, inferInstanceAs (TyF Tryz.prog 24 0 3 0 1 false)⟩, ⟨⟨3, inferInstanceAs (TyF Tryz.prog 24 1 3 1 1 false)⟩, ⟨⟨3, inferInstanceAs (TyF Tryz.prog 24 2 3 2 1 false)⟩, ⟨⟨22, inferInstanceAs (TyF Tryz.prog 24 3 22 3 1 false)⟩, trivial⟩⟩⟩⟩, by kernel_rfl, .struct Tryz.underlying24 Ty.zero24 rfl rfl rfl rfl⟩
theorem ti25 : TI.ok Tryz.prog 25 ⟨.slc 5 1 true, 1⟩ := ⟨⟨⟨Tryz.underlying25⟩, ⟨⟨Ty.size25⟩, by kernel_rfl⟩⟩, ⟨Ty.size5⟩, (fun _ => ⟨Tryz.underlying5⟩), inferInstance⟩
theorem ti32 : TI.ok Tryz.prog 32 ⟨.slc 3 1 false, 1⟩ := ⟨⟨⟨Tryz.underlying32⟩, ⟨⟨Ty.size32⟩, by kernel_rfl⟩⟩, ⟨Ty.size3⟩, (fun h => Bool.noConfusion h), inferInstance⟩
theorem ti33 : TI.ok Tryz.prog 33 ⟨.slc 49 8 false, 1⟩ := ⟨⟨⟨Tryz.underlying33⟩, ⟨⟨Ty.size33⟩, by kernel_rfl⟩⟩, ⟨Ty.size49⟩, (fun h => Bool.noConfusion h), inferInstance⟩
theorem ti35 : TI.ok Tryz.prog 35 ⟨.struct [(0, 1, false), (1, 1, false), (2, 1, false), (3, 1, false), (4, 1, false), (5, 1, false), (6, 1, false), (7, 1, false), (8, 1, false), (9, 1, false)] [(.int .i64 0), .str [], .str [], .str [], (.int .i64 0), (.int .i64 0), (.int .i64 0), .nils, .nils, .str []], 10⟩ := ⟨⟨⟨_, Tryz.underlying35, rfl⟩, ⟨Ty.size35⟩⟩, ⟨⟨3, inferInstanceAs (TyF Tryz.prog 35 0 3 0 1 false)⟩, ⟨⟨9, inferInstanceAs (TyF Tryz.prog 35 1 9 1 1 false)⟩, ⟨⟨9, inferInstanceAs (TyF Tryz.prog 35 2 9 2 1 false)⟩, ⟨⟨9, inferInstanceAs (TyF Tryz.prog 35 3 9 3 1 false)⟩, ⟨⟨3, inferInstanceAs (TyF Tryz.prog 35 4 3 4 1 false)⟩, ⟨⟨3, inferInstanceAs (TyF Tryz.prog 35 5 3 5 1 false)⟩, ⟨⟨3, inferInstanceAs (TyF Tryz.prog 35 6 3 6 1 false)⟩, ⟨⟨32, inferInstanceAs (TyF Tryz.prog 35 7 32 7 1 false)⟩, ⟨⟨33, inferInstanceAs (TyF Tryz.prog 35 8 33 8 1 false)⟩, ⟨⟨9, inferInstanceAs (TyF Tryz.prog 35 9 9 9 1 false)⟩, trivial⟩⟩⟩⟩⟩⟩⟩⟩⟩⟩, by kernel_rfl, .struct Tryz.underlying35 Ty.zero35 rfl rfl rfl rfl⟩
theorem ti40 : TI.ok Tryz.prog 40 ⟨.fn, 1⟩ := ⟨⟨_, _, _, ⟨Tryz.underlying40⟩⟩, ⟨⟨Ty.size40⟩, by kernel_rfl⟩⟩
theorem ti49 : TI.ok Tryz.prog 49 ⟨.struct [(0, 1, false), (1, 1, false), (2, 1, false), (3, 1, false), (4, 1, false), (5, 1, false), (6, 1, false), (7, 1, false)] [(.int .i64 0), .str [], .str [], (.int .i64 0), (.int .i64 0), (.bool false), .str [], (.int .i64 0)], 8⟩ := ⟨⟨⟨_, Tryz.underlying49, rfl⟩, ⟨Ty.size49⟩⟩, ⟨⟨3, inferInstanceAs (TyF Tryz.prog 49 0 3 0 1 false)⟩, ⟨⟨9, inferInstanceAs (TyF Tryz.prog 49 1 9 1 1 false)⟩, ⟨⟨9, inferInstanceAs (TyF Tryz.prog 49 2 9 2 1 false)⟩, ⟨⟨3, inferInstanceAs (TyF Tryz.prog 49 3 3 3 1 false)⟩, ⟨⟨3, inferInstanceAs (TyF Tryz.prog 49 4 3 4 1 false)⟩, ⟨⟨4, inferInstanceAs (TyF Tryz.prog 49 5 4 5 1 false)⟩, ⟨⟨9, inferInstanceAs (TyF Tryz.prog 49 6 9 6 1 false)⟩, ⟨⟨3, inferInstanceAs (TyF Tryz.prog 49 7 3 7 1 false)⟩, trivial⟩⟩⟩⟩⟩⟩⟩⟩, by kernel_rfl, .struct Tryz.underlying49 Ty.zero49 rfl rfl rfl rfl⟩
theorem ti56 : TI.ok Tryz.prog 56 ⟨.slc 9 1 false, 1⟩ := ⟨⟨⟨Tryz.underlying56⟩, ⟨⟨Ty.size56⟩, by kernel_rfl⟩⟩, ⟨Ty.size9⟩, (fun h => Bool.noConfusion h), inferInstance⟩
theorem ti58 : TI.ok Tryz.prog 58 ⟨.fn, 1⟩ := ⟨⟨_, _, _, ⟨Tryz.underlying58⟩⟩, ⟨⟨Ty.size58⟩, by kernel_rfl⟩⟩
theorem ti69 : TI.ok Tryz.prog 69 ⟨.ifc, 1⟩ := ⟨⟨_, Tryz.underlying69⟩, ⟨⟨Ty.size69⟩, by kernel_rfl⟩⟩
theorem ti81 : TI.ok Tryz.prog 81 ⟨.fn, 1⟩ := ⟨⟨_, _, _, ⟨Tryz.underlying81⟩⟩, ⟨⟨Ty.size81⟩, by kernel_rfl⟩⟩
theorem ti92 : TI.ok Tryz.prog 92 ⟨.int .i64, 1⟩ := ⟨⟨Tryz.underlying92⟩, ⟨⟨Ty.size92⟩, by kernel_rfl⟩⟩
theorem ti95 : TI.ok Tryz.prog 95 ⟨.ptr, 1⟩ := ⟨⟨_, ⟨Tryz.underlying95⟩⟩, ⟨⟨Ty.size95⟩, by kernel_rfl⟩⟩
theorem ti98 : TI.ok Tryz.prog 98 ⟨.int .u64, 1⟩ := ⟨⟨Tryz.underlying98⟩, ⟨⟨Ty.size98⟩, by kernel_rfl⟩⟩
theorem ti101 : TI.ok Tryz.prog 101 ⟨.ptr, 1⟩ := ⟨⟨_, ⟨Tryz.underlying101⟩⟩, ⟨⟨Ty.size101⟩, by kernel_rfl⟩⟩
theorem ti103 : TI.ok Tryz.prog 103 ⟨.struct [(0, 1, false), (1, 1, false)] [.nilp, .nils], 2⟩ := ⟨⟨⟨_, Tryz.underlying103, rfl⟩, ⟨Ty.size103⟩⟩, ⟨⟨101, inferInstanceAs (TyF Tryz.prog 103 0 101 0 1 false)⟩, ⟨⟨25, inferInstanceAs (TyF Tryz.prog 103 1 25 1 1 false)⟩, trivial⟩⟩, by kernel_rfl, .struct Tryz.underlying103 Ty.zero103 rfl rfl rfl rfl⟩
theorem ti115 : TI.ok Tryz.prog 115 ⟨.int .u64, 1⟩ := ⟨⟨Tryz.underlying115⟩, ⟨⟨Ty.size115⟩, by kernel_rfl⟩⟩
theorem ti120 : TI.ok Tryz.prog 120 ⟨.struct [(0, 1, false), (1, 1, false), (2, 1, false)] [.str [], .str [], .nilifc], 3⟩ := ⟨⟨⟨_, Tryz.underlying120, rfl⟩, ⟨Ty.size120⟩⟩, ⟨⟨9, inferInstanceAs (TyF Tryz.prog 120 0 9 0 1 false)⟩, ⟨⟨9, inferInstanceAs (TyF Tryz.prog 120 1 9 1 1 false)⟩, ⟨⟨69, inferInstanceAs (TyF Tryz.prog 120 2 69 2 1 false)⟩, trivial⟩⟩⟩, by kernel_rfl, .struct Tryz.underlying120 Ty.zero120 rfl rfl rfl rfl⟩
theorem ti123 : TI.ok Tryz.prog 123 ⟨.int .u32, 1⟩ := ⟨⟨Tryz.underlying123⟩, ⟨⟨Ty.size123⟩, by kernel_rfl⟩⟩
theorem ti128 : TI.ok Tryz.prog 128 ⟨.ptr, 1⟩ := ⟨⟨_, ⟨Tryz.underlying128⟩⟩, ⟨⟨Ty.size128⟩, by kernel_rfl⟩⟩
theorem ti133 : TI.ok Tryz.prog 133 ⟨.ptr, 1⟩ := ⟨⟨_, ⟨Tryz.underlying133⟩⟩, ⟨⟨Ty.size133⟩, by kernel_rfl⟩⟩
theorem ti135 : TI.ok Tryz.prog 135 ⟨.struct [(0, 1, false)] [.str []], 1⟩ := ⟨⟨⟨_, Tryz.underlying135, rfl⟩, ⟨Ty.size135⟩⟩, ⟨⟨9, inferInstanceAs (TyF Tryz.prog 135 0 9 0 1 false)⟩, trivial⟩, by kernel_rfl, .struct Tryz.underlying135 Ty.zero135 rfl rfl rfl rfl⟩
theorem ti136 : TI.ok Tryz.prog 136 ⟨.arr 24 5 1 false [(.int .u8 0), (.int .u8 0), (.int .u8 0), (.int .u8 0), (.int .u8 0), (.int .u8 0), (.int .u8 0), (.int .u8 0), (.int .u8 0), (.int .u8 0), (.int .u8 0), (.int .u8 0), (.int .u8 0), (.int .u8 0), (.int .u8 0), (.int .u8 0), (.int .u8 0), (.int .u8 0), (.int .u8 0), (.int .u8 0), (.int .u8 0), (.int .u8 0), (.int .u8 0), (.int .u8 0)], 24⟩ := ⟨⟨⟨Tryz.underlying136⟩, ⟨Ty.size136⟩⟩, ⟨Ty.size5⟩, ⟨_, Tryz.underlying5, rfl⟩, by kernel_rfl, .array Tryz.underlying136 Ty.zero136 rfl Ty.size5 rfl⟩
theorem ti148 : TI.ok Tryz.prog 148 ⟨.arr 20 115 1 false [(.int .u64 0), (.int .u64 0), (.int .u64 0), (.int .u64 0), (.int .u64 0), (.int .u64 0), (.int .u64 0), (.int .u64 0), (.int .u64 0), (.int .u64 0), (.int .u64 0), (.int .u64 0), (.int .u64 0), (.int .u64 0), (.int .u64 0), (.int .u64 0), (.int .u64 0), (.int .u64 0), (.int .u64 0), (.int .u64 0)], 20⟩ := ⟨⟨⟨Tryz.underlying148⟩, ⟨Ty.size148⟩⟩, ⟨Ty.size115⟩, ⟨_, Tryz.underlying115, rfl⟩, by kernel_rfl, .array Tryz.underlying148 Ty.zero148 rfl Ty.size115 rfl⟩
theorem ti149 : TI.ok Tryz.prog 149 ⟨.arr 65 5 1 false [(.int .u8 0), (.int .u8 0), (.int .u8 0), (.int .u8 0), (.int .u8 0), (.int .u8 0), (.int .u8 0), (.int .u8 0), (.int .u8 0), (.int .u8 0), (.int .u8 0), (.int .u8 0), (.int .u8 0), (.int .u8 0), (.int .u8 0), (.int .u8 0), (.int .u8 0), (.int .u8 0), (.int .u8 0), (.int .u8 0), (.int .u8 0), (.int .u8 0), (.int .u8 0), (.int .u8 0), (.int .u8 0), (.int .u8 0), (.int .u8 0), (.int .u8 0), (.int .u8 0), (.int .u8 0), (.int .u8 0), (.int .u8 0), (.int .u8 0), (.int .u8 0), (.int .u8 0), (.int .u8 0), (.int .u8 0), (.int .u8 0), (.int .u8 0), (.int .u8 0), (.int .u8 0), (.int .u8 0), (.int .u8 0), (.int .u8 0), (.int .u8 0), (.int .u8 0), (.int .u8 0), (.int .u8 0), (.int .u8 0), (.int .u8 0), (.int .u8 0), (.int .u8 0), (.int .u8 0), (.int .u8 0), (.int .u8 0), (.int .u8 0), (.int .u8 0), (.int .u8 0), (.int .u8 0), (.int .u8 0), (.int .u8 0), (.int .u8 0), (.int .u8 0), (.int .u8 0), (.int .u8 0)], 65⟩ := ⟨⟨⟨Tryz.underlying149⟩, ⟨Ty.size149⟩⟩, ⟨Ty.size5⟩, ⟨_, Tryz.underlying5, rfl⟩, by kernel_rfl, .array Tryz.underlying149 Ty.zero149 rfl Ty.size5 rfl⟩
theorem ti152 : TI.ok Tryz.prog 152 ⟨.arr 256 5 1 false [(.int .u8 0), (.int .u8 0), (.int .u8 0), (.int .u8 0), (.int .u8 0), (.int .u8 0), (.int .u8 0), (.int .u8 0), (.int .u8 0), (.int .u8 0), (.int .u8 0), (.int .u8 0), (.int .u8 0), (.int .u8 0), (.int .u8 0), (.int .u8 0), (.int .u8 0), (.int .u8 0), (.int .u8 0), (.int .u8 0), (.int .u8 0), (.int .u8 0), (.int .u8 0), (.int .u8 0), (.int .u8 0), (.int .u8 0), (.int .u8 0), (.int .u8 0), (.int .u8 0), (.int .u8 0), (.int .u8 0), (.int .u8 0), (.int .u8 0), (.int .u8 0), (.int .u8 0), (.int .u8 0), (.int .u8 0), (.int .u8 0), (.int .u8 0), (.int .u8 0), (.int .u8 0), (.int .u8 0), (.int .u8 0), (.int .u8 0), (.int .u8 0), (.int .u8 0), (.int .u8 0), (.int .u8 0), (.int .u8 0), (.int .u8 0), (.int .u8 0), (.int .u8 0), (.int .u8 0), (.int .u8 0), (.int .u8 0), (.int .u8 0), (.int .u8 0), (.int .u8 0), (.int .u8 0), (.int .u8 0), (.int .u8 0), (.int .u8 0), (.int .u8 0), (.int .u8 0), (.int .u8 0), (.int .u8 0), (.int .u8 0), (.int .u8 0), (.int .u8 0), (.int .u8 0), (.int .u8 0), (.int .u8 0), (.int .u8 0), (.int .u8 0), (.int .u8 0), (.int .u8 0), (.int .u8 0), (.int .u8 0), (.int .u8 0), (.int .u8 0), (.int .u8 0), (.int .u8 0), (.int .u8 0), (.int .u8 0), (.int .u8 0), (.int .u8 0), (.int .u8 0), (.int .u8 0), (.int .u8 0), (.int .u8 0), (.int .u8 0), (.int .u8 0), (.int .u8 0), (.int .u8 0), (.int .u8 0), (.int .u8 0), (.int .u8 0), (.int .u8 0), (.int .u8 0), (.int .u8 0), (.int .u8 0), (.int .u8 0), (.int .u8 0), (.int .u8 0), (.int .u8 0), (.int .u8 0), (.int .u8 0), (.int .u8 0), (.int .u8 0), (.int .u8 0), (.int .u8 0), (.int .u8 0), (.int .u8 0), (.int .u8 0), (.int .u8 0), (.int .u8 0), (.int .u8 0), (.int .u8 0), (.int .u8 0), (.int .u8 0), (.int .u8 0), (.int .u8 0), (.int .u8 0), (.int .u8 0), (.int .u8 0), (.int .u8 0), (.int .u8 0), (.int .u8 0), (.int .u8 0), (.int .u8 0), (.int .u8 0), (.int .u8 0), (.int .u8 0), (.int .u8 0), (.int .u8 0), (.int .u8 0), (.int .u8 0), (.int .u8 0), (.int .u8 0), (.int .u8 0), (.int .u8 0), (.int .u8 0), (.int .u8 0), (.int .u8 0), (.int .u8 0), (.int .u8 0), (.int .u8 0), (.int .u8 0), (.int .u8 0), (.int .u8 0), (.int .u8 0), (.int .u8 0), (.int .u8 0), (.int .u8 0), (.int .u8 0), (.int .u8 0), (.int .u8 0), (.int .u8 0), (.int .u8 0), (.int .u8 0), (.int .u8 0), (.int .u8 0), (.int .u8 0), (.int .u8 0), (.int .u8 0), (.int .u8 0), (.int .u8 0), (.int .u8 0), (.int .u8 0), (.int .u8 0), (.int .u8 0), (.int .u8 0), (.int .u8 0), (.int .u8 0), (.int .u8 0), (.int .u8 0), (.int .u8 0), (.int .u8 0), (.int .u8 0), (.int .u8 0), (.int .u8 0), (.int .u8 0), (.int .u8 0), (.int .u8 0), (.int .u8 0), (.int .u8 0), (.int .u8 0), (.int .u8 0), (.int .u8 0), (.int .u8 0), (.int .u8 0), (.int .u8 0), (.int .u8 0), (.int .u8 0), (.int .u8 0), (.int .u8 0), (.int .u8 0), (.int .u8 0), (.int .u8 0), (.int .u8 0), (.int .u8 0), (.int .u8 0), (.int .u8 0), (.int .u8 0), (.int .u8 0), (.int .u8 0), (.int .u8 0), (.int .u8 0), (.int .u8 0), (.int .u8 0), (.int .u8 0), (.int .u8 0), (.int .u8 0), (.int .u8 0), (.int .u8 0), (.int .u8 0), (.int .u8 0), (.int .u8 0), (.int .u8 0), (.int .u8 0), (.int .u8 0), (.int .u8 0), (.int .u8 0), (.int .u8 0), (.int .u8 0), (.int .u8 0), (.int .u8 0), (.int .u8 0), (.int .u8 0), (.int .u8 0), (.int .u8 0), (.int .u8 0), (.int .u8 0), (.int .u8 0), (.int .u8 0), (.int .u8 0), (.int .u8 0), (.int .u8 0), (.int .u8 0), (.int .u8 0), (.int .u8 0), (.int .u8 0), (.int .u8 0), (.int .u8 0), (.int .u8 0), (.int .u8 0), (.int .u8 0), (.int .u8 0), (.int .u8 0), (.int .u8 0), (.int .u8 0), (.int .u8 0), (.int .u8 0), (.int .u8 0), (.int .u8 0), (.int .u8 0)], 256⟩ := ⟨⟨⟨Tryz.underlying152⟩, ⟨Ty.size152⟩⟩, ⟨Ty.size5⟩, ⟨_, Tryz.underlying5, rfl⟩, by kernel_rfl, .array Tryz.underlying152 Ty.zero152 rfl Ty.size5 rfl⟩
theorem ti154 : TI.ok Tryz.prog 154 ⟨.struct [(0, 1, false), (1, 1, false)] [(.int .u8 0), (.int .u8 0)], 2⟩ := ⟨⟨⟨_, Tryz.underlying154, rfl⟩, ⟨Ty.size154⟩⟩, ⟨⟨5, inferInstanceAs (TyF Tryz.prog 154 0 5 0 1 false)⟩, ⟨⟨5, inferInstanceAs (TyF Tryz.prog 154 1 5 1 1 false)⟩, trivial⟩⟩, by kernel_rfl, .struct Tryz.underlying154 Ty.zero154 rfl rfl rfl rfl⟩
theorem ti155 : TI.ok Tryz.prog 155 ⟨.arr 16 154 2 true [(.int .u8 0), (.int .u8 0), (.int .u8 0), (.int .u8 0), (.int .u8 0), (.int .u8 0), (.int .u8 0), (.int .u8 0), (.int .u8 0), (.int .u8 0), (.int .u8 0), (.int .u8 0), (.int .u8 0), (.int .u8 0), (.int .u8 0), (.int .u8 0), (.int .u8 0), (.int .u8 0), (.int .u8 0), (.int .u8 0), (.int .u8 0), (.int .u8 0), (.int .u8 0), (.int .u8 0), (.int .u8 0), (.int .u8 0), (.int .u8 0), (.int .u8 0), (.int .u8 0), (.int .u8 0), (.int .u8 0), (.int .u8 0)], 32⟩ := ⟨⟨⟨Tryz.underlying155⟩, ⟨Ty.size155⟩⟩, ⟨Ty.size154⟩, ⟨_, Tryz.underlying154, rfl⟩, by kernel_rfl, .array Tryz.underlying155 Ty.zero155 rfl Ty.size154 rfl⟩
theorem ti158 : TI.ok Tryz.prog 158 ⟨.arr 32 5 1 false [(.int .u8 0), (.int .u8 0), (.int .u8 0), (.int .u8 0), (.int .u8 0), (.int .u8 0), (.int .u8 0), (.int .u8 0), (.int .u8 0), (.int .u8 0), (.int .u8 0), (.int .u8 0), (.int .u8 0), (.int .u8 0), (.int .u8 0), (.int .u8 0), (.int .u8 0), (.int .u8 0), (.int .u8 0), (.int .u8 0), (.int .u8 0), (.int .u8 0), (.int .u8 0), (.int .u8 0), (.int .u8 0), (.int .u8 0), (.int .u8 0), (.int .u8 0), (.int .u8 0), (.int .u8 0), (.int .u8 0), (.int .u8 0)], 32⟩ := ⟨⟨⟨Tryz.underlying158⟩, ⟨Ty.size158⟩⟩, ⟨Ty.size5⟩, ⟨_, Tryz.underlying5, rfl⟩, by kernel_rfl, .array Tryz.underlying158 Ty.zero158 rfl Ty.size5 rfl⟩
theorem ti159 : TI.ok Tryz.prog 159 ⟨.arr 64 5 1 false [(.int .u8 0), (.int .u8 0), (.int .u8 0), (.int .u8 0), (.int .u8 0), (.int .u8 0), (.int .u8 0), (.int .u8 0), (.int .u8 0), (.int .u8 0), (.int .u8 0), (.int .u8 0), (.int .u8 0), (.int .u8 0), (.int .u8 0), (.int .u8 0), (.int .u8 0), (.int .u8 0), (.int .u8 0), (.int .u8 0), (.int .u8 0), (.int .u8 0), (.int .u8 0), (.int .u8 0), (.int .u8 0), (.int .u8 0), (.int .u8 0), (.int .u8 0), (.int .u8 0), (.int .u8 0), (.int .u8 0), (.int .u8 0), (.int .u8 0), (.int .u8 0), (.int .u8 0), (.int .u8 0), (.int .u8 0), (.int .u8 0), (.int .u8 0), (.int .u8 0), (.int .u8 0), (.int .u8 0), (.int .u8 0), (.int .u8 0), (.int .u8 0), (.int .u8 0), (.int .u8 0), (.int .u8 0), (.int .u8 0), (.int .u8 0), (.int .u8 0), (.int .u8 0), (.int .u8 0), (.int .u8 0), (.int .u8 0), (.int .u8 0), (.int .u8 0), (.int .u8 0), (.int .u8 0), (.int .u8 0), (.int .u8 0), (.int .u8 0), (.int .u8 0), (.int .u8 0)], 64⟩ := ⟨⟨⟨Tryz.underlying159⟩, ⟨Ty.size159⟩⟩, ⟨Ty.size5⟩, ⟨_, Tryz.underlying5, rfl⟩, by kernel_rfl, .array Tryz.underlying159 Ty.zero159 rfl Ty.size5 rfl⟩
def tt : TT := (.node (.node (.node (.node (.node (.node .leaf 2 ⟨.int .i64, 1⟩ .leaf) 3 ⟨.int .i64, 1⟩ .leaf) 4 ⟨.bool, 1⟩ (.node .leaf 5 ⟨.int .u8, 1⟩ .leaf)) 9 ⟨.str, 1⟩ (.node (.node (.node .leaf 21 ⟨.int .i32, 1⟩ .leaf) 22 ⟨.slc 35 10 false, 1⟩ .leaf) 24 ⟨.struct [(0, 1, false), (1, 1, false), (2, 1, false), (3, 1, false)] [(.int .i64 0), (.int .i64 0), (.int .i64 0), .nils], 4⟩ (.node .leaf 25 ⟨.slc 5 1 true, 1⟩ .leaf))) 32 ⟨.slc 3 1 false, 1⟩ (.node (.node (.node (.node .leaf 33 ⟨.slc 49 8 false, 1⟩ .leaf) 35 ⟨.struct [(0, 1, false), (1, 1, false), (2, 1, false), (3, 1, false), (4, 1, false), (5, 1, false), (6, 1, false), (7, 1, false), (8, 1, false), (9, 1, false)] [(.int .i64 0), .str [], .str [], .str [], (.int .i64 0), (.int .i64 0), (.int .i64 0), .nils, .nils, .str []], 10⟩ .leaf) 40 ⟨.fn, 1⟩ (.node .leaf 49 ⟨.struct [(0, 1, false), (1, 1, false), (2, 1, false), (3, 1, false), (4, 1, false), (5, 1, false), (6, 1, false), (7, 1, false)] [(.int .i64 0), .str [], .str [], (.int .i64 0), (.int .i64 0), (.bool false), .str [], (.int .i64 0)], 8⟩ .leaf)) 56 ⟨.slc 9 1 false, 1⟩ (.node (.node .leaf 58 ⟨.fn, 1⟩ .leaf) 69 ⟨.ifc, 1⟩ (.node .leaf 81 ⟨.fn, 1⟩ .leaf)))) 92 ⟨.int .i64, 1⟩ (.node (.node (.node (.node (.node .leaf 95 ⟨.ptr, 1⟩ .leaf) 98 ⟨.int .u64, 1⟩ .leaf) 101 ⟨.ptr, 1⟩ (.node .leaf 103 ⟨.struct [(0, 1, false), (1, 1, false)] [.nilp, .nils], 2⟩ .leaf)) 115 ⟨.int .u64, 1⟩ (.node (.node (.node .leaf 120 ⟨.struct [(0, 1, false), (1, 1, false), (2, 1, false)] [.str [], .str [], .nilifc], 3⟩ .leaf) 123 ⟨.int .u32, 1⟩ .leaf) 128 ⟨.ptr, 1⟩ (.node .leaf 133 ⟨.ptr, 1⟩ .leaf))) 135 ⟨.struct [(0, 1, false)] [.str []], 1⟩ (.node (.node (.node (.node .leaf 136 ⟨.arr 24 5 1 false [(.int .u8 0), (.int .u8 0), (.int .u8 0), (.int .u8 0), (.int .u8 0), (.int .u8 0), (.int .u8 0), (.int .u8 0), (.int .u8 0), (.int .u8 0), (.int .u8 0), (.int .u8 0), (.int .u8 0), (.int .u8 0), (.int .u8 0), (.int .u8 0), (.int .u8 0), (.int .u8 0), (.int .u8 0), (.int .u8 0), (.int .u8 0), (.int .u8 0), (.int .u8 0), (.int .u8 0)], 24⟩ .leaf) 148 ⟨.arr 20 115 1 false [(.int .u64 0), (.int .u64 0), (.int .u64 0), (.int .u64 0), (.int .u64 0), (.int .u64 0), (.int .u64 0), (.int .u64 0), (.int .u64 0), (.int .u64 0), (.int .u64 0), (.int .u64 0), (.int .u64 0), (.int .u64 0), (.int .u64 0), (.int .u64 0), (.int .u64 0), (.int .u64 0), (.int .u64 0), (.int .u64 0)], 20⟩ .leaf) 149 ⟨.arr 65 5 1 false [(.int .u8 0), (.int .u8 0), (.int .u8 0), (.int .u8 0), (.int .u8 0), (.int .u8 0), (.int .u8 0), (.int .u8 0), (.int .u8 0), (.int .u8 0), (.int .u8 0), (.int .u8 0), (.int .u8 0), (.int .u8 0), (.int .u8 0), (.int .u8 0), (.int .u8 0), (.int .u8 0), (.int .u8 0), (.int .u8 0), (.int .u8 0), (.int .u8 0), (.int .u8 0), (.int .u8 0), (.int .u8 0), (.int .u8 0), (.int .u8 0), (.int .u8 0), (.int .u8 0), (.int .u8 0), (.int .u8 0), (.int .u8 0), (.int .u8 0), (.int .u8 0), (.int .u8 0), (.int .u8 0), (.int .u8 0), (.int .u8 0), (.int .u8 0), (.int .u8 0), (.int .u8 0), (.int .u8 0), (.int .u8 0), (.int .u8 0), (.int .u8 0), (.int .u8 0), (.int .u8 0), (.int .u8 0), (.int .u8 0), (.int .u8 0), (.int .u8 0), (.int .u8 0), (.int .u8 0), (.int .u8 0), (.int .u8 0), (.int .u8 0), (.int .u8 0), (.int .u8 0), (.int .u8 0), (.int .u8 0), (.int .u8 0), (.int .u8 0), (.int .u8 0), (.int .u8 0), (.int .u8 0)], 65⟩ (.node .leaf 152 ⟨.arr 256 5 1 false [(.int .u8 0), (.int .u8 0), (.int .u8 0), (.int .u8 0), (.int .u8 0), (.int .u8 0), (.int .u8 0), (.int .u8 0), (.int .u8 0), (.int .u8 0), (.int .u8 0), (.int .u8 0), (.int .u8 0), (.int .u8 0), (.int .u8 0), (.int .u8 0), (.int .u8 0), (.int .u8 0), (.int .u8 0), (.int .u8 0), (.int .u8 0), (.int .u8 0), (.int .u8 0), (.int .u8 0), (.int .u8 0), (.int .u8 0), (.int .u8 0), (.int .u8 0), (.int .u8 0), (.int .u8 0), (.int .u8 0), (.int .u8 0), (.int .u8 0), (.int .u8 0), (.int .u8 0), (.int .u8 0), (.int .u8 0), (.int .u8 0), (.int .u8 0), (.int .u8 0), (.int .u8 0), (.int .u8 0), (.int .u8 0), (.int .u8 0), (.int .u8 0), (.int .u8 0), (.int .u8 0), (.int .u8 0), (.int .u8 0), (.int .u8 0), (.int .u8 0), (.int .u8 0), (.int .u8 0), (.int .u8 0), (.int .u8 0), (.int .u8 0), (.int .u8 0), (.int .u8 0), (.int .u8 0), (.int .u8 0), (.int .u8 0), (.int .u8 0), (.int .u8 0), (.int .u8 0), (.int .u8 0), (.int .u8 0), (.int .u8 0), (.int .u8 0), (.int .u8 0), (.int .u8 0), (.int .u8 0), (.int .u8 0), (.int .u8 0), (.int .u8 0), (.int .u8 0), (.int .u8 0), (.int .u8 0), (.int .u8 0), (.int .u8 0), (.int .u8 0), (.int .u8 0), (.int .u8 0), (.int .u8 0), (.int .u8 0), (.int .u8 0), (.int .u8 0), (.int .u8 0), (.int .u8 0), (.int .u8 0), (.int .u8 0), (.int .u8 0), (.int .u8 0), (.int .u8 0), (.int .u8 0), (.int .u8 0), (.int .u8 0), (.int .u8 0), (.int .u8 0), (.int .u8 0), (.int .u8 0), (.int .u8 0), (.int .u8 0), (.int .u8 0), (.int .u8 0), (.int .u8 0), (.int .u8 0), (.int .u8 0), (.int .u8 0), (.int .u8 0), (.int .u8 0), (.int .u8 0), (.int .u8 0), (.int .u8 0), (.int .u8 0), (.int .u8 0), (.int .u8 0), (.int .u8 0), (.int .u8 0), (.int .u8 0), (.int .u8 0), (.int .u8 0), (.int .u8 0), (.int .u8 0), (.int .u8 0), (.int .u8 0), (.int .u8 0), (.int .u8 0), (.int .u8 0), (.int .u8 0), (.int .u8 0), (.int .u8 0), (.int .u8 0), (.int .u8 0), (.int .u8 0), (.int .u8 0), (.int .u8 0), (.int .u8 0), (.int .u8 0), (.int .u8 0), (.int .u8 0), (.int .u8 0), (.int .u8 0), (.int .u8 0), (.int .u8 0), (.int .u8 0), (.int .u8 0), (.int .u8 0), (.int .u8 0), (.int .u8 0), (.int .u8 0), (.int .u8 0), (.int .u8 0), (.int .u8 0), (.int .u8 0), (.int .u8 0), (.int .u8 0), (.int .u8 0), (.int .u8 0), (.int .u8 0), (.int .u8 0), (.int .u8 0), (.int .u8 0), (.int .u8 0), (.int .u8 0), (.int .u8 0), (.int .u8 0), (.int .u8 0), (.int .u8 0), (.int .u8 0), (.int .u8 0), (.int .u8 0), (.int .u8 0), (.int .u8 0), (.int .u8 0), (.int .u8 0), (.int .u8 0), (.int .u8 0), (.int .u8 0), (.int .u8 0), (.int .u8 0), (.int .u8 0), (.int .u8 0), (.int .u8 0), (.int .u8 0), (.int .u8 0), (.int .u8 0), (.int .u8 0), (.int .u8 0), (.int .u8 0), (.int .u8 0), (.int .u8 0), (.int .u8 0), (.int .u8 0), (.int .u8 0), (.int .u8 0), (.int .u8 0), (.int .u8 0), (.int .u8 0), (.int .u8 0), (.int .u8 0), (.int .u8 0), (.int .u8 0), (.int .u8 0), (.int .u8 0), (.int .u8 0), (.int .u8 0), (.int .u8 0), (.int .u8 0), (.int .u8 0), (.int .u8 0), (.int .u8 0), (.int .u8 0), (.int .u8 0), (.int .u8 0), (.int .u8 0), (.int .u8 0), (.int .u8 0), (.int .u8 0), (.int .u8 0), (.int .u8 0), (.int .u8 0), (.int .u8 0), (.int .u8 0), (.int .u8 0), (.int .u8 0), (.int .u8 0), (.int .u8 0), (.int .u8 0), (.int .u8 0), (.int .u8 0), (.int .u8 0), (.int .u8 0), (.int .u8 0), (.int .u8 0), (.int .u8 0), (.int .u8 0), (.int .u8 0), (.int .u8 0), (.int .u8 0), (.int .u8 0), (.int .u8 0), (.int .u8 0), (.int .u8 0), (.int .u8 0), (.int .u8 0), (.int .u8 0), (.int .u8 0), (.int .u8 0), (.int .u8 0), (.int .u8 0), (.int .u8 0), (.int .u8 0), (.int .u8 0), (.int .u8 0), (.int .u8 0), (.int .u8 0)], 256⟩ .leaf)) 154 ⟨.struct [(0, 1, false), (1, 1, false)] [(.int .u8 0), (.int .u8 0)], 2⟩ (.node (.node .leaf 155 ⟨.arr 16 154 2 true [(.int .u8 0), (.int .u8 0), (.int .u8 0), (.int .u8 0), (.int .u8 0), (.int .u8 0), (.int .u8 0), (.int .u8 0), (.int .u8 0), (.int .u8 0), (.int .u8 0), (.int .u8 0), (.int .u8 0), (.int .u8 0), (.int .u8 0), (.int .u8 0), (.int .u8 0), (.int .u8 0), (.int .u8 0), (.int .u8 0), (.int .u8 0), (.int .u8 0), (.int .u8 0), (.int .u8 0), (.int .u8 0), (.int .u8 0), (.int .u8 0), (.int .u8 0), (.int .u8 0), (.int .u8 0), (.int .u8 0), (.int .u8 0)], 32⟩ .leaf) 158 ⟨.arr 32 5 1 false [(.int .u8 0), (.int .u8 0), (.int .u8 0), (.int .u8 0), (.int .u8 0), (.int .u8 0), (.int .u8 0), (.int .u8 0), (.int .u8 0), (.int .u8 0), (.int .u8 0), (.int .u8 0), (.int .u8 0), (.int .u8 0), (.int .u8 0), (.int .u8 0), (.int .u8 0), (.int .u8 0), (.int .u8 0), (.int .u8 0), (.int .u8 0), (.int .u8 0), (.int .u8 0), (.int .u8 0), (.int .u8 0), (.int .u8 0), (.int .u8 0), (.int .u8 0), (.int .u8 0), (.int .u8 0), (.int .u8 0), (.int .u8 0)], 32⟩ (.node .leaf 159 ⟨.arr 64 5 1 false [(.int .u8 0), (.int .u8 0), (.int .u8 0), (.int .u8 0), (.int .u8 0), (.int .u8 0), (.int .u8 0), (.int .u8 0), (.int .u8 0), (.int .u8 0), (.int .u8 0), (.int .u8 0), (.int .u8 0), (.int .u8 0), (.int .u8 0), (.int .u8 0), (.int .u8 0), (.int .u8 0), (.int .u8 0), (.int .u8 0), (.int .u8 0), (.int .u8 0), (.int .u8 0), (.int .u8 0), (.int .u8 0), (.int .u8 0), (.int .u8 0), (.int .u8 0), (.int .u8 0), (.int .u8 0), (.int .u8 0), (.int .u8 0), (.int .u8 0), (.int .u8 0), (.int .u8 0), (.int .u8 0), (.int .u8 0), (.int .u8 0), (.int .u8 0), (.int .u8 0), (.int .u8 0), (.int .u8 0), (.int .u8 0), (.int .u8 0), (.int .u8 0), (.int .u8 0), (.int .u8 0), (.int .u8 0), (.int .u8 0), (.int .u8 0), (.int .u8 0), (.int .u8 0), (.int .u8 0), (.int .u8 0), (.int .u8 0), (.int .u8 0), (.int .u8 0), (.int .u8 0), (.int .u8 0), (.int .u8 0), (.int .u8 0), (.int .u8 0), (.int .u8 0), (.int .u8 0)], 64⟩ .leaf)))))
theorem tok : tt.ok Tryz.prog := ⟨⟨⟨⟨⟨⟨trivial, ti2, trivial⟩, ti3, trivial⟩, ti4, ⟨trivial, ti5, trivial⟩⟩, ti9, ⟨⟨⟨trivial, ti21, trivial⟩, ti22, trivial⟩, ti24, ⟨trivial, ti25, trivial⟩⟩⟩, ti32, ⟨⟨⟨⟨trivial, ti33, trivial⟩, ti35, trivial⟩, ti40, ⟨trivial, ti49, trivial⟩⟩, ti56, ⟨⟨trivial, ti58, trivial⟩, ti69, ⟨trivial, ti81, trivial⟩⟩⟩⟩, ti92, ⟨⟨⟨⟨⟨trivial, ti95, trivial⟩, ti98, trivial⟩, ti101, ⟨trivial, ti103, trivial⟩⟩, ti115, ⟨⟨⟨trivial, ti120, trivial⟩, ti123, trivial⟩, ti128, ⟨trivial, ti133, trivial⟩⟩⟩, ti135, ⟨⟨⟨⟨trivial, ti136, trivial⟩, ti148, trivial⟩, ti149, ⟨trivial, ti152, trivial⟩⟩, ti154, ⟨⟨trivial, ti155, trivial⟩, ti158, ⟨trivial, ti159, trivial⟩⟩⟩⟩⟩
end Go.Proofs.YtgliemhhnkhboaaGreatDoor.Ty
end
section
set_option linter.unusedVariables false
set_option linter.unusedSimpArgs false
set_option maxRecDepth 100000
set_option maxHeartbeats 1000000
namespace Go.Proofs.YtgliemhhnkhboaaGreatDoor
open Go.Al Go.RowKit
def wordB (b : UInt8) : Bool := (decide (97 ≤ b.toNat) && decide (b.toNat ≤ 122)) || (decide (48 ≤ b.toNat) && decide (b.toNat ≤ 57))
def wordS (s : List UInt8) : Bool := s.all wordB && !decide (s = [])
theorem word_no {s : List UInt8} {i : Nat} (h : i < s.length) (hb : wordB s[i] = false) : wordS s = false := by
  have : s.all wordB = false := by
    rw [List.all_eq_false]
    exact ⟨s[i], List.getElem_mem h, by simp [hb]⟩
  simp [wordS, this]
theorem word_on {s : List UInt8} {i : Nat} (h : i < s.length) (hw : ∀ b ∈ s.take i, wordB b = true) (hb : wordB s[i] = true) : ∀ b ∈ s.take (i + 1), wordB b = true := by
  intro b hm
  rw [List.take_succ_eq_append_getElem h] at hm
  rcases List.mem_append.1 hm with hm | hm
  · exact hw b hm
  · obtain rfl := List.mem_singleton.1 hm; exact hb
theorem word_any (w0 : Base) (s : List UInt8) : CallP Tryz.prog w0 73 [.str s] (.bool (wordS s)) := by
  refine CallP.h Ty.tok Ty.mixed Tryz.func73 rfl Tryz.ntmps73 rfl (by simp) (by decide +kernel) fun σ => ?_
  (conv => whnf); refine Hid.seq ?_; refine Hid.reg ?_; (conv => whnf); refine Hid.seq ?_; refine Hid.seq ?_; refine Hid.reg ?_; (conv => whnf); intro b1 hb1; (conv => whnf); refine Hid.block ?_; refine Hid.loop ?_
  refine SLoop.by Ty.mixed (fun i : Nat => s.length - i) (fun i => [(0, .str s), (6, .it b1)]) (fun _ => []) (fun i τ => i ≤ s.length ∧ (∀ b ∈ s.take i, wordB b = true) ∧ τ = σ.setObj b1 (some (.str s i))) 0 ⟨by repeat (first | exact trivial | refine ⟨by first | trivial | exact Weak.refl _ | exact Weak.tok _ _ _ | exact Weak.of_eq (congrArg (AV.int _) (by omega)) | exact Weak.of_eq (congrArg AV.bool (by fail)) | exact Weak.nils _ _ (.inr rfl), ?_⟩), .none _, Nat.zero_le _, by simp, rfl⟩ ?_
  rintro i τ ⟨hi, hw, rfl⟩
  by_cases hlt : i < s.length
  · by_cases hs : (s[i]'hlt).toNat < 128
    · have hd : Utf8.decode ⟨s.toArray⟩ i = ((s[i]'hlt).toNat, 1) := decode_ascii ⟨s.toArray⟩ i (by simpa [ByteArray.size] using hlt) hs
      refine Xc_h ?_; (conv => whnf); refine Hid.seq ?_; refine Hid.reg ?_; (conv => whnf); refine SNext.y setObj_same hlt ?_
      rw [hd, setObj_setObj]
      (conv => whnf); refine Hid.seq ?_; refine Hid.cond rfl ?_; refine SIf.y Ty.mixed (by exact rfl) ?_; refine Xc_h ?_; (conv => whnf); refine Hid.skip ?_; (conv => whnf); refine Hid.seq ?_; refine Hid.reg ?_; (conv => whnf); refine Hid.seq ?_; refine Hid.reg ?_; (conv => whnf); refine SCond.mk (fun hc => ?_) (fun hc => ?_); (conv => whnf); rotate_left; (conv => whnf)
      rotate_right
      refine SCond.y (by assumption) ?_; (conv => whnf); refine SPick.y (by assumption) ?_; (conv => whnf); refine SCond.y (by exact rfl) ?_; (conv => whnf); refine SCond.y (by exact rfl) ?_; (conv => whnf); refine SCond.y (by exact rfl) ?_; (conv => whnf); refine SCond.mk (fun hc => ?_) (fun hc => ?_); (conv => whnf); rotate_left; (conv => whnf)
      rotate_right
      refine SCond.y (by assumption) ?_; (conv => whnf); refine SCond.y (by exact rfl) ?_; (conv => whnf); refine SPick.y (by assumption) ?_; (conv => whnf); refine SPick.y (by exact rfl) ?_; (conv => whnf); refine Hid.cond rfl ?_; refine SIf.y Ty.mixed (by exact rfl) ?_; refine Xc_h ?_; (conv => whnf); refine Hid.seq ?_; refine Hid.reg ?_; (conv => whnf); refine Hid.ret ?_; (conv => whnf)
      rotate_left; refine SCond.n (by assumption) ?_; (conv => whnf); refine SCond.y (by exact rfl) ?_; (conv => whnf); refine SPick.n (by assumption) ?_; (conv => whnf); refine SPick.y (by exact rfl) ?_; (conv => whnf); refine Hid.cond rfl ?_; refine SIf.x Ty.mixed (fun hc => ?_) (fun hc => ?_); refine Xc_h ?_; (conv => whnf); refine Hid.seq ?_; refine Hid.reg ?_; (conv => whnf); refine Hid.ret ?_
      (conv => whnf); rotate_left; refine Xc_h ?_; (conv => whnf); refine Hid.skip ?_; (conv => whnf)
      rotate_right
      rotate_left; rotate_left; refine SCond.n (by assumption) ?_; (conv => whnf); refine SPick.n (by assumption) ?_; (conv => whnf); refine SCond.mk (fun hc => ?_) (fun hc => ?_); (conv => whnf); rotate_left; (conv => whnf)
      rotate_right
      refine SCond.y (by assumption) ?_; (conv => whnf); refine SCond.y (by assumption) ?_; (conv => whnf); refine SCond.mk (fun hc => ?_) (fun hc => ?_); (conv => whnf); rotate_left; (conv => whnf)
      rotate_right
      refine SCond.y (by assumption) ?_; (conv => whnf); refine SCond.y (by assumption) ?_; (conv => whnf); refine SPick.y (by assumption) ?_; (conv => whnf); refine SPick.y (by assumption) ?_; (conv => whnf); refine Hid.cond rfl ?_; refine SIf.y Ty.mixed (by exact rfl) ?_; refine Xc_h ?_; (conv => whnf); refine Hid.seq ?_; refine Hid.reg ?_; (conv => whnf); refine Hid.ret ?_; (conv => whnf)
      rotate_left; refine SCond.n (by assumption) ?_; (conv => whnf); refine SCond.y (by assumption) ?_; (conv => whnf); refine SPick.n (by assumption) ?_; (conv => whnf); refine SPick.y (by assumption) ?_; (conv => whnf); refine Hid.cond rfl ?_; refine SIf.x Ty.mixed (fun hc => ?_) (fun hc => ?_); refine Xc_h ?_; (conv => whnf); refine Hid.seq ?_; refine Hid.reg ?_; (conv => whnf)
      refine Hid.ret ?_; (conv => whnf); rotate_left; refine Xc_h ?_; (conv => whnf); refine Hid.skip ?_; (conv => whnf)
      rotate_right
      rotate_left; rotate_left; refine SCond.n (by assumption) ?_; (conv => whnf); refine SCond.n (by assumption) ?_; (conv => whnf); refine SCond.n (by assumption) ?_; (conv => whnf); refine SPick.n (by assumption) ?_; (conv => whnf); refine Hid.cond rfl ?_; refine SIf.n Ty.mixed (by exact rfl) ?_; refine Xc_h ?_; (conv => whnf); refine Hid.skip ?_; (conv => whnf); rotate_left
      all_goals simp only [decide_eq_true_eq, decide_eq_false_iff_not] at *
      all_goals first
        | exact .p (le_setObj (.refl _) hb1) (congrArg AV.bool (word_no hlt (by simp [wordB]; omega)))
        | exact ⟨i + 1, by omega, ⟨by repeat (first | exact trivial | refine ⟨by first | trivial | exact Weak.refl _ | exact Weak.tok _ _ _ | exact Weak.of_eq (congrArg (AV.int _) (by omega)) | exact Weak.of_eq (congrArg AV.bool (by fail)) | exact Weak.nils _ _ (.inr rfl), ?_⟩), .none _, by omega, word_on hlt hw (by simp [wordB]; omega), rfl⟩⟩
    · have h128 : 128 ≤ (s[i]'hlt).toNat := by omega
      have hd := decode_high ⟨s.toArray⟩ i (by simpa [ByteArray.size] using hlt) h128
      generalize hdd : Utf8.decode ⟨s.toArray⟩ i = d at hd
      refine Xc_h ?_; (conv => whnf); refine Hid.seq ?_; refine Hid.reg ?_; (conv => whnf); refine SNext.y setObj_same hlt ?_
      rw [hdd, setObj_setObj]
      (conv => whnf); refine Hid.seq ?_; refine Hid.cond rfl ?_; refine SIf.y Ty.mixed (by exact rfl) ?_; refine Xc_h ?_; (conv => whnf); refine Hid.skip ?_; (conv => whnf); refine Hid.seq ?_; refine Hid.reg ?_; (conv => whnf); refine Hid.seq ?_; refine Hid.reg ?_; (conv => whnf); refine SCond.mk (fun hc => ?_) (fun hc => ?_); (conv => whnf); rotate_left; (conv => whnf)
      rotate_right
      refine SCond.y (by assumption) ?_; (conv => whnf); refine SPick.y (by assumption) ?_; (conv => whnf); refine SCond.y (by exact rfl) ?_; (conv => whnf); refine SCond.y (by exact rfl) ?_; (conv => whnf); refine SCond.y (by exact rfl) ?_; (conv => whnf); refine SCond.mk (fun hc => ?_) (fun hc => ?_); (conv => whnf); rotate_left; (conv => whnf)
      rotate_right
      refine SCond.y (by assumption) ?_; (conv => whnf); refine SCond.y (by exact rfl) ?_; (conv => whnf); refine SPick.y (by assumption) ?_; (conv => whnf); refine SPick.y (by exact rfl) ?_; (conv => whnf); refine Hid.cond rfl ?_; refine SIf.y Ty.mixed (by exact rfl) ?_; refine Xc_h ?_; (conv => whnf); refine Hid.seq ?_; refine Hid.reg ?_; (conv => whnf); refine Hid.ret ?_; (conv => whnf)
      rotate_left; refine SCond.n (by assumption) ?_; (conv => whnf); refine SCond.y (by exact rfl) ?_; (conv => whnf); refine SPick.n (by assumption) ?_; (conv => whnf); refine SPick.y (by exact rfl) ?_; (conv => whnf); refine Hid.cond rfl ?_; refine SIf.x Ty.mixed (fun hc => ?_) (fun hc => ?_); refine Xc_h ?_; (conv => whnf); refine Hid.seq ?_; refine Hid.reg ?_; (conv => whnf); refine Hid.ret ?_
      (conv => whnf); rotate_left; refine Xc_h ?_; (conv => whnf); refine Hid.skip ?_; (conv => whnf)
      rotate_right
      rotate_left; rotate_left; refine SCond.n (by assumption) ?_; (conv => whnf); refine SPick.n (by assumption) ?_; (conv => whnf); refine SCond.mk (fun hc => ?_) (fun hc => ?_); (conv => whnf); rotate_left; (conv => whnf)
      rotate_right
      refine SCond.y (by assumption) ?_; (conv => whnf); refine SCond.y (by assumption) ?_; (conv => whnf); refine SCond.mk (fun hc => ?_) (fun hc => ?_); (conv => whnf); rotate_left; (conv => whnf)
      rotate_right
      refine SCond.y (by assumption) ?_; (conv => whnf); refine SCond.y (by assumption) ?_; (conv => whnf); refine SPick.y (by assumption) ?_; (conv => whnf); refine SPick.y (by assumption) ?_; (conv => whnf); refine Hid.cond rfl ?_; refine SIf.y Ty.mixed (by exact rfl) ?_; refine Xc_h ?_; (conv => whnf); refine Hid.seq ?_; refine Hid.reg ?_; (conv => whnf); refine Hid.ret ?_; (conv => whnf)
      rotate_left; refine SCond.n (by assumption) ?_; (conv => whnf); refine SCond.y (by assumption) ?_; (conv => whnf); refine SPick.n (by assumption) ?_; (conv => whnf); refine SPick.y (by assumption) ?_; (conv => whnf); refine Hid.cond rfl ?_; refine SIf.x Ty.mixed (fun hc => ?_) (fun hc => ?_); refine Xc_h ?_; (conv => whnf); refine Hid.seq ?_; refine Hid.reg ?_; (conv => whnf)
      refine Hid.ret ?_; (conv => whnf); rotate_left; refine Xc_h ?_; (conv => whnf); refine Hid.skip ?_; (conv => whnf)
      rotate_right
      rotate_left; rotate_left; refine SCond.n (by assumption) ?_; (conv => whnf); refine SCond.n (by assumption) ?_; (conv => whnf); refine SCond.n (by assumption) ?_; (conv => whnf); refine SPick.n (by assumption) ?_; (conv => whnf); refine Hid.cond rfl ?_; refine SIf.n Ty.mixed (by exact rfl) ?_; refine Xc_h ?_; (conv => whnf); refine Hid.skip ?_; (conv => whnf); rotate_left
      all_goals simp only [decide_eq_true_eq, decide_eq_false_iff_not] at *
      all_goals first
        | exact .p (le_setObj (.refl _) hb1) (congrArg AV.bool (word_no hlt (by simp [wordB]; omega)))
        | (exfalso; omega)
  · refine Xc_h ?_
    (conv => whnf); refine Hid.seq ?_; refine Hid.reg ?_; (conv => whnf); refine SNext.n setObj_same (by omega) ?_; (conv => whnf); refine Hid.seq ?_; refine Hid.cond rfl ?_; refine SIf.n Ty.mixed (by exact rfl) ?_; refine Xc_h ?_; (conv => whnf); refine Hid.exit ?_; (conv => whnf); refine Hid.seq ?_; refine Hid.reg ?_; (conv => whnf); refine Hid.ret ?_; (conv => whnf)
    refine .p (le_setObj (.refl _) hb1) (congrArg AV.bool ?_)
    have : s.all wordB = true := List.all_eq_true.2 fun b hb => hw b (by rwa [List.take_of_length_le (by omega)])
    simp [wordS, this]
end Go.Proofs.YtgliemhhnkhboaaGreatDoor
end
section
set_option linter.unusedVariables false
set_option linter.unusedSimpArgs false
set_option maxRecDepth 100000
set_option maxHeartbeats 400000
namespace Go.Proofs.YtgliemhhnkhboaaGreatDoor
open Go.Al Go.RowKit
def deathN (m : Msg) : Int := if m.dead = false then 0 else if m.why = [110, 97, 99, 107] then 1 else 2
end Go.Proofs.YtgliemhhnkhboaaGreatDoor
end
section
set_option linter.unusedVariables false
set_option linter.unusedSimpArgs false
set_option maxRecDepth 100000
set_option maxHeartbeats 400000
namespace Go.Proofs.YtgliemhhnkhboaaGreatDoor
open Go.Al Go.RowKit
def numsB : List Int → List UInt8
  | [] => []
  | a :: l => num a ++ numsB l
def txtsB : List (List UInt8) → List UInt8
  | [] => []
  | a :: l => txt a ++ txtsB l
end Go.Proofs.YtgliemhhnkhboaaGreatDoor
end
section
set_option linter.unusedVariables false
namespace Go.Proofs.YtgliemhhnkhboaaGreatDoor
open Go.Al
def w64 (n : Int) : Int := Go.IntKind.i64.wrap n
def gapsB (last : Int) : List Int → List UInt8
  | [] => []
  | a :: l => num (w64 (a - last)) ++ gapsB a l
def acksB (x : Sub) : List UInt8 := num x.acks.length ++ gapsB x.floor x.acks
def msgB (m : Msg) : List UInt8 := txt m.body ++ txt m.attr ++ num m.tries ++ num m.until_ ++ num m.prio ++ num (deathN m)
def subB (x : Sub) : List UInt8 := txt x.name ++ txt x.topic ++ txt x.want ++ num x.lease ++ num x.most ++ num x.floor ++ txt x.note
def msgRow (id : Int) (m : Msg) : Row := ⟨rkey 3 113 id m.seq, msgB m⟩
def enc3 (x : Sub) : List Row := (if x.acks = [] then [] else [⟨rkey 3 97 x.id 0, acksB x⟩]) ++ x.queue.map (msgRow x.id) ++ [⟨rkey 3 115 x.id 0, subB x⟩]
structure Fits (x : Sub) : Prop where
  name : x.name.length ≤ 1000
  topic : x.topic.length ≤ 1000
  want : x.want.length ≤ 1000
  note : x.note.length ≤ 1000
  nacks : x.acks.length ≤ 100000
  nqueue : x.queue.length ≤ 100000
  queue : ∀ m ∈ x.queue, m.body.length ≤ 1000 ∧ m.attr.length ≤ 1000
end Go.Proofs.YtgliemhhnkhboaaGreatDoor
end
section
set_option linter.unusedVariables false
namespace Go.Proofs.YtgliemhhnkhboaaGreatDoor
open Go.Al
def deadN (m : Msg) : Int := if m.dead = true then 1 else 0
def qB (m : Msg) : List UInt8 := txt m.body ++ txt m.attr ++ num m.tries ++ num m.until_ ++ num (deadN m)
def xB (m : Msg) : List UInt8 := num m.prio ++ num (deathN m)
def sB (x : Sub) : List UInt8 := txt x.name ++ txt x.topic ++ num x.lease ++ num x.most ++ num x.floor
def ack1 (id n : Int) : Row := ⟨rkey 1 97 id n, []⟩
def note1 (x : Sub) : List Row := if x.note = [] then [] else [⟨rkey 1 110 x.id 0, txt x.note⟩]
def q1 (id : Int) (m : Msg) : Row := ⟨rkey 1 113 id m.seq, qB m⟩
def s1 (x : Sub) : Row := ⟨rkey 1 115 x.id 0, sB x⟩
def want1 (x : Sub) : List Row := if x.want = [] then [] else [⟨rkey 1 119 x.id 0, txt x.want⟩]
def x1 (id : Int) (m : Msg) : List Row := if m.prio ≠ 0 ∨ m.dead = true then [⟨rkey 1 120 id m.seq, xB m⟩] else []
def encA (x : Sub) : List Row := x.acks.map (ack1 x.id) ++ note1 x
def encB (x : Sub) : List Row := encA x ++ x.queue.map (q1 x.id) ++ [s1 x]
def enc1 (x : Sub) : List Row := encB x ++ want1 x ++ x.queue.flatMap (x1 x.id)
end Go.Proofs.YtgliemhhnkhboaaGreatDoor
end
section
set_option linter.unusedVariables false
namespace Go.Proofs.YtgliemhhnkhboaaGreatDoor
open Go.Al
inductive Fm where
  | s (l : List UInt8)
  | n (k : Int)
def eFm : Fm → AV
  | .s l => .ifc 9 (.str l)
  | .n k => .ifc 3 (.int .i64 k)
def f1 : Fm → List UInt8
  | .s l => txt l
  | .n k => num k
def fB : List Fm → List UInt8
  | [] => []
  | [x] => f1 x
  | x :: y :: l => f1 x ++ fB (y :: l)
def FmOk (l : List Fm) : Prop := l.length ≤ 1000 ∧ ∀ x ∈ l, (f1 x).length ≤ 2000
theorem f1_len_s {s : List UInt8} (h : s.length ≤ 1000) : (f1 (.s s)).length ≤ 2000 := by
  have := num_len s.length
  simp [f1, txt]; omega
theorem f1_len_n (k : Int) : (f1 (.n k)).length ≤ 2000 := by
  have := num_len k
  simp only [f1]; omega
def FmS : List Fm → Prop
  | [] => True
  | .s v :: l => v.length ≤ 1000 ∧ FmS l
  | .n _ :: l => FmS l
theorem FmS.ok : ∀ {l : List Fm}, FmS l → ∀ x ∈ l, (f1 x).length ≤ 2000
  | [], _, x, hx => by simp at hx
  | .s v :: l, h, x, hx => by
    rcases List.mem_cons.1 hx with rfl | hx
    · exact f1_len_s h.1
    · exact FmS.ok h.2 x hx
  | .n k :: l, h, x, hx => by
    rcases List.mem_cons.1 hx with rfl | hx
    · exact f1_len_n k
    · exact FmS.ok (l := l) h x hx
end Go.Proofs.YtgliemhhnkhboaaGreatDoor
end
section
set_option linter.unusedVariables false
set_option linter.unusedSimpArgs false
set_option maxRecDepth 100000
set_option maxHeartbeats 1000000
namespace Go.Proofs.YtgliemhhnkhboaaGreatDoor
open Go.Al Go.RowKit
instance : TyI Tryz.prog 69 := ⟨_, Tryz.underlying69⟩
def gn (b : List UInt8) (at_ : Nat) : Nat → Nat → Nat → Nat × Nat × Nat
  | 0, _, _ => (0, 0, 11)
  | k + 1, i, n => if at_ + i = b.length then (0, 0, 10) else
    let c := (b.getD (at_ + i) 0).toNat
    let n' := n + c % 128 * 2 ^ (7 * i)
    if c < 128 then (if c = 0 ∧ 0 < i ∨ 9007199254740992 < n' then (0, 0, 11) else (n', at_ + i + 1, 0)) else gn b at_ k (i + 1) n'
def getNum (b : List UInt8) (at_ : Nat) : Nat × Nat × Nat := if b.length < at_ then (0, 0, 10) else gn b at_ 8 0 0
def e3 (p : Nat × Nat × Nat) : AV := .tup [.int .i64 p.1, .int .i64 p.2.1, .int .u16 p.2.2]
end Go.Proofs.YtgliemhhnkhboaaGreatDoor
end
section
set_option linter.unusedVariables false
set_option linter.unusedSimpArgs false
set_option maxRecDepth 100000
set_option maxHeartbeats 1000000
namespace Go.Proofs.YtgliemhhnkhboaaGreatDoor
open Go.Al Go.RowKit
def getText (b : List UInt8) (a most : Nat) : List UInt8 × Nat × Nat :=
  let p := getNum b a
  if p.2.2 ≠ 0 then ([], 0, p.2.2) else if most < p.1 then ([], 0, 3) else if b.length < p.1 + p.2.1 then ([], 0, 10) else ((b.take (p.2.1 + p.1)).drop p.2.1, p.2.1 + p.1, 0)
def eT (p : List UInt8 × Nat × Nat) : AV := .tup [.str p.1, .int .i64 p.2.1, .int .u16 p.2.2]
def atN (a k e : Nat) : Nat := if e = 0 then k else a
def errN (e : Nat) (f : Option Nat) : Option Nat := if e = 0 then f else match f with
  | none => some e
  | some g => some g
def rNum (v : List UInt8) (a : Nat) (f : Option Nat) : Nat × Nat × Option Nat :=
  let p := getNum v a
  (if (errN p.2.2 f).isNone then p.1 else 0, atN a p.2.1 p.2.2, errN p.2.2 f)
def rText (v : List UInt8) (a : Nat) (f : Option Nat) (most : Nat) : List UInt8 × Nat × Option Nat :=
  let p := getText v a most
  (if (errN p.2.2 f).isNone then p.1 else [], atN a p.2.1 p.2.2, errN p.2.2 f)
end Go.Proofs.YtgliemhhnkhboaaGreatDoor
end
section
set_option linter.unusedVariables false
set_option linter.unusedSimpArgs false
set_option maxRecDepth 100000
namespace Go.Proofs.YtgliemhhnkhboaaGreatDoor
open Go.Al Go.RowKit
theorem byte_val {n : Nat} (h : n < 256) : (UInt8.ofNat n).toNat = n := by simp; omega
def At (v : List UInt8) (a : Nat) (r : List UInt8) : Prop := a ≤ v.length ∧ v.drop a = r
def n53 (n : Int) : Prop := 0 ≤ n ∧ n ≤ 9007199254740992
end Go.Proofs.YtgliemhhnkhboaaGreatDoor
end
section
set_option linter.unusedVariables false
set_option linter.unusedSimpArgs false
set_option maxRecDepth 100000
set_option maxHeartbeats 400000
namespace Go.Proofs.YtgliemhhnkhboaaGreatDoor
open Go.Al Go.RowKit
def gL (c : List UInt8) (i : Nat) : Nat := (c.getD i 0).toNat
theorem gL_lt (c : List UInt8) (i : Nat) : gL c i < 256 := (c.getD i 0).toNat_lt
theorem g_any (w0 : Base) (c : List UInt8) (t : Tok) (i : Nat) : CallP Tryz.prog w0 24 [.slc 1 (aBytes c) t, .int .i64 i] (.int .i64 (gL c i)) := by
  refine CallP.start Tryz.func24 rfl Tryz.ntmps24 (by simp) fun σ Q hQ => ?_
  by_cases h : i < c.length
  · have ga : c[i]? = some (c.getD i 0) := by simp [h]
    have hb := gL_lt c i
    refine W.seq ?_; refine W.regionL (by decide +kernel) rfl ?_; apply r_op; exact rfl; exact rfl; apply a_assign; (conv => (lhs; whnf)); (with_reducible refine runs_done ?_); refine W.seq ?_; refine W.seq ?_; refine W.regionL (by decide +kernel) rfl ?_; apply r_op; exact rfl; exact rfl; apply a_move; (conv => (lhs; whnf)); apply r_op; exact rfl; exact rfl; apply a_move; (conv => (lhs; whnf))
    apply r_op; exact rfl; exact rfl; apply g_call; exact a_len_slc rfl; apply r_op; exact rfl; exact rfl; apply g_binOp; exact a_binI rfl rfl rfl; (with_reducible refine runs_done ?_); refine W.cond rfl (fun hc => ?_) (fun hc => ?_); refine W.seq ?_; refine W.regionL (by decide +kernel) rfl ?_; apply r_op; exact rfl; exact rfl; apply a_move; (conv => (lhs; whnf)); apply r_op; exact rfl; exact rfl
    apply a_move; (conv => (lhs; whnf)); apply r_op; exact rfl; exact rfl; apply g_indexAddr; exact a_indexAddr rfl rfl (by decide) (by omega) (by exact get_map (by assumption)); apply r_op; exact rfl; exact rfl; apply g_load; exact a_load1 rfl rfl; apply r_op; exact rfl; exact rfl; apply g_convert; exact a_convI rfl; apply r_op; exact rfl; exact rfl; apply a_assign; (conv => (lhs; whnf))
    (with_reducible refine runs_done ?_); refine W.ret ?_; show Q Exit.ret _ _; refine post_q hQ (by apply res_tmp; exact rfl; exact res_nil) (.inl rfl) (by exact .refl _) ?_; (conv => (lhs; whnf)); rotate_left; refine W.skip ?_; show W _ _ _ _ _ _ _; refine W.seq ?_; refine W.regionL (by decide +kernel) rfl ?_; apply r_op; exact rfl; exact rfl; apply a_assign; (conv => (lhs; whnf))
    (with_reducible refine runs_done ?_); refine W.ret ?_; show Q Exit.ret _ _; refine post_q hQ (by apply res_tmp; exact rfl; exact res_nil) (.inl rfl) (by exact .refl _) ?_; (conv => (lhs; whnf)); rotate_left
    · show AV.int .i64 (IntKind.i64.wrap _) = _
      rw [IntWalk.i64_in _ (by have := (c.getD i 0).toNat_lt; omega)]; rfl
    · simp [length_aBytes] at hc; omega
  · refine W.seq ?_
    refine W.regionL (by decide +kernel) rfl ?_; apply r_op; exact rfl; exact rfl; apply a_assign; (conv => (lhs; whnf)); (with_reducible refine runs_done ?_); refine W.seq ?_; refine W.seq ?_; refine W.regionL (by decide +kernel) rfl ?_; apply r_op; exact rfl; exact rfl; apply a_move; (conv => (lhs; whnf)); apply r_op; exact rfl; exact rfl; apply a_move; (conv => (lhs; whnf)); apply r_op; exact rfl
    exact rfl; apply g_call; exact a_len_slc rfl; apply r_op; exact rfl; exact rfl; apply g_binOp; exact a_binI rfl rfl rfl; (with_reducible refine runs_done ?_); refine W.cond rfl (fun hc => ?_) (fun hc => ?_); refine W.seq ?_; refine W.regionL (by decide +kernel) rfl ?_; apply r_op; exact rfl; exact rfl; apply a_move; (conv => (lhs; whnf)); apply r_op; exact rfl; exact rfl; apply a_move
    (conv => (lhs; whnf)); rotate_left; refine W.skip ?_; show W _ _ _ _ _ _ _; refine W.seq ?_; refine W.regionL (by decide +kernel) rfl ?_; apply r_op; exact rfl; exact rfl; apply a_assign; (conv => (lhs; whnf)); (with_reducible refine runs_done ?_); refine W.ret ?_; show Q Exit.ret _ _; refine post_q hQ (by apply res_tmp; exact rfl; exact res_nil) (.inl rfl) (by exact .refl _) ?_
    (conv => (lhs; whnf)); rotate_left
    · simp [length_aBytes] at hc; omega
    · have : c.getD i 0 = 0 := by simp [List.getD, List.getElem?_eq_none (Nat.le_of_not_lt h)]
      rw [gL, this]; rfl
def letter (k i : Nat) : UInt8 := UInt8.ofNat (97 + (i + k) % 26)
def textL (k most : Nat) : List UInt8 := (List.range (k % (most + 1))).map (letter k)
theorem textL_len (k most : Nat) : (textL k most).length ≤ most := by simp [textL]; have := Nat.mod_lt k (show 0 < most + 1 by omega); omega
theorem letter_eq (k i : Nat) : Al.byteOf (97 + ((Al.byteOf (((i : Int) + (k : Int)) % 26)).toNat : Int)) = letter k i := by
  have e : (((i : Int) + (k : Int)) % 26 : Int) = ((i + k) % 26 : Nat) := by omega
  rw [e, byteOf_toNat _ (by omega)]
  show Al.byteOf ((97 + (i + k) % 26 : Nat) : Int) = _
  simp only [Al.byteOf, letter]
  have : ((97 + (i + k) % 26 : Nat) : Int) % 256 = (97 + (i + k) % 26 : Nat) := by omega
  rw [this]; rfl
theorem lawtext_any (w0 : Base) (k most : Nat) (hk : k ≤ 1000000000) (hm : most ≤ 1000000000) : CallP Tryz.prog w0 28 [.int .i64 k, .int .i64 most] (.str (textL k most)) := by
  refine CallP.start Tryz.func28 rfl Tryz.ntmps28 (by simp) fun σ Q hQ => ?_
  refine W.seq ?_; refine W.regionL (by decide +kernel) rfl ?_; apply r_op; exact rfl; exact rfl; apply a_assign; (conv => (lhs; whnf)); (with_reducible refine runs_done ?_); refine W.seq ?_; refine W.regionL (by decide +kernel) rfl ?_; apply r_op; exact rfl; exact rfl; apply a_assign; (conv => (lhs; whnf)); (with_reducible refine runs_done ?_); refine W.seq ?_; refine W.seq ?_
  refine W.regionL (by decide +kernel) rfl ?_; apply r_op; exact rfl; exact rfl; apply a_assign; (conv => (lhs; whnf)); (with_reducible refine runs_done ?_); refine W.block ?_
  refine W.loop (fun n E s => ∃ i : Nat, i ≤ k % (most + 1) ∧ n = k % (most + 1) - i ∧ s = σ ∧ Has [(0, .int .i64 k), (1, .int .i64 most), (5, .str ((List.range i).map (letter k))), (6, .int .i64 i)] E) (k % (most + 1)) ⟨0, Nat.zero_le _, rfl, rfl, by exact Has.by (by repeat (first | exact trivial | refine ⟨by first | trivial | exact Weak.refl _ | exact Weak.tok _ _ _ | exact Weak.of_eq (congrArg (AV.int _) (by omega)) | exact Weak.nils _ _ (.inr rfl), ?_⟩))⟩ ?_
  rintro n E s ⟨i, hi, rfl, rfl, hE⟩; refine W.has hE ?_; clear hE
  have hlt := Nat.mod_lt k (show 0 < most + 1 by omega)
  have hmod : ((k % (most + 1) : Nat) : Int) = (k : Int) % ((most : Int) + 1) := by simp
  have hlen : ((List.range i).map (letter k)).length = i := by simp
  refine W.seq ?_; refine W.seq ?_; refine W.regionL (by decide +kernel) rfl ?_; apply r_op; exact rfl; exact rfl; apply a_move; (conv => (lhs; whnf)); apply r_op; exact rfl; exact rfl; apply a_move; (conv => (lhs; whnf)); apply r_op; exact rfl; exact rfl; apply a_move; (conv => (lhs; whnf)); apply r_op; exact rfl; exact rfl; apply g_binOp; exact a_add64 rfl rfl (by omega); apply r_op; exact rfl
  exact rfl; apply g_binOp; exact a_rem rfl rfl (by omega); apply r_op; exact rfl; exact rfl; apply g_binOp; exact a_binI rfl rfl rfl; (with_reducible refine runs_done ?_); refine W.cond rfl (fun hc => ?_) (fun hc => ?_); refine W.skip ?_; show W _ _ _ _ _ _ _; refine W.seq ?_; refine W.block ?_; refine W.regionL (by decide +kernel) rfl ?_; apply r_op; exact rfl; exact rfl; apply a_move
  (conv => (lhs; whnf)); apply r_op; exact rfl; exact rfl; apply a_move; (conv => (lhs; whnf)); apply r_op; exact rfl; exact rfl; apply a_move; (conv => (lhs; whnf)); apply r_op; exact rfl; exact rfl; apply g_binOp; exact a_add64 rfl rfl (by omega); apply r_op; exact rfl; exact rfl; apply g_binOp; exact a_rem rfl rfl (by omega); apply r_op; exact rfl; exact rfl; apply g_convert; exact a_convB rfl
  apply r_op; exact rfl; exact rfl; apply g_binOp; exact a_u8add rfl rfl; apply r_op; exact rfl; exact rfl; apply g_buildSlice; apply a_build1; (conv => (lhs; whnf)); exact rfl; exact rfl; decide; apply r_op; exact rfl; exact rfl; apply g_convert; exact a_bytesStrX rfl (by apply toB_cons; exact toB_nil); apply r_op; exact rfl; exact rfl; apply g_binOp
  exact a_addS rfl rfl (by simp only [length_aBytes, List.length_append, List.length_cons, List.length_nil, List.length_map, List.length_range]; omega); apply r_op; exact rfl; exact rfl; apply a_assign; (conv => (lhs; whnf)); (with_reducible refine runs_done ?_); refine W.regionL (by decide +kernel) rfl ?_; apply r_op; exact rfl; exact rfl; apply a_move; (conv => (lhs; whnf)); apply r_op; exact rfl
  exact rfl; apply g_binOp; exact a_add64 rfl rfl (by omega); apply r_op; exact rfl; exact rfl; apply a_assign; (conv => (lhs; whnf)); (with_reducible refine runs_done ?_); rotate_left; refine W.exit ?_; show W _ _ _ _ _ _ _; refine W.seq ?_; refine W.regionL (by decide +kernel) rfl ?_; apply r_op; exact rfl; exact rfl; apply a_move; (conv => (lhs; whnf)); apply r_op; exact rfl; exact rfl
  apply a_assign; (conv => (lhs; whnf)); (with_reducible refine runs_done ?_); refine W.ret ?_; show Q Exit.ret _ _; refine post_q hQ (by apply res_tmp; exact rfl; exact res_nil) (.inl rfl) (by exact .refl _) ?_; (conv => (lhs; whnf)); rotate_left
  · have h1 : i < k % (most + 1) := by rw [← hmod] at hc; simp only [decide_eq_true_eq] at hc; omega
    refine ⟨k % (most + 1) - (i + 1), by omega, i + 1, by omega, rfl, rfl, ?_⟩
    rw [List.range_succ, List.map_append]
    simp only [List.map_cons, List.map_nil]
    rw [← letter_eq]
    exact Has.by (by repeat (first | exact trivial | refine ⟨by first | trivial | exact Weak.refl _ | exact Weak.tok _ _ _ | exact Weak.of_eq (congrArg (AV.int _) (by omega)) | exact Weak.nils _ _ (.inr rfl), ?_⟩))
  · have h1 : i = k % (most + 1) := by rw [← hmod] at hc; simp only [decide_eq_false_iff_not] at hc; omega
    rw [h1]; rfl
end Go.Proofs.YtgliemhhnkhboaaGreatDoor
end
section
set_option linter.unusedVariables false
namespace Go.Proofs.YtgliemhhnkhboaaGreatDoor
open Go.Al
def Rise : Int → List Int → Prop
  | _, [] => True
  | lo, a :: l => lo < a ∧ Rise a l
theorem Rise.snoc : ∀ {l : List Int} {lo b : Int}, Rise lo l → lo < b → (∀ a ∈ l, a < b) → Rise lo (l ++ [b])
  | [], lo, b, _, h, _ => ⟨h, trivial⟩
  | a :: l, lo, b, h, hb, ha => ⟨h.1, Rise.snoc h.2 (ha a (by simp)) fun c hc => ha c (by simp [hc])⟩
theorem Rise.lt : ∀ {l : List Int} {lo : Int}, Rise lo l → ∀ a ∈ l, lo < a
  | [], _, _, a, h => by simp at h
  | b :: l, lo, h, a, ha => by
    rcases List.mem_cons.1 ha with rfl | ha
    · exact h.1
    · have := Rise.lt h.2 a ha
      have := h.1
      omega
structure MsgOk (clock most lease : Int) (m : Msg) : Prop where
  body : m.body.length ≤ 60
  attr : m.attr = [] ∨ m.attr = [97, 61, 49] ∨ m.attr = [98, 61, 50]
  prio : 0 ≤ m.prio ∧ m.prio ≤ 9
  st : (m.dead = false ∧ m.why = [] ∧ m.until_ = 0 ∧ 0 ≤ m.tries ∧ m.tries < most) ∨ (m.dead = false ∧ m.why = [] ∧ (1 ≤ m.tries ∧ m.tries ≤ most) ∧ clock < m.until_ ∧ m.until_ ≤ clock + lease) ∨
    (m.dead = true ∧ m.until_ = 0 ∧ m.tries = most ∧ (m.why = [110, 97, 99, 107] ∨ m.why = [116, 105, 109, 101]))
def TopicOk (v : List UInt8) : Prop := v = [35] ∨ v = [97] ∨ v = [97, 47, 43] ∨ v = [98, 47, 35]
def WantOk (v : List UInt8) : Prop := v = [] ∨ v = [97, 61, 49] ∨ v = [97, 61, 49, 44, 98, 61, 50]
structure Grown (id clock next : Nat) (x : Sub) : Prop where
  name : ∃ k, k < 256 ∧ x.name = 110 :: textL k 19
  topic : TopicOk x.topic
  want : WantOk x.want
  note : x.note.length ≤ 30
  id : x.id = id
  most : 1 ≤ x.most ∧ x.most ≤ 9
  lease : 1 ≤ x.lease ∧ x.lease ≤ 1000
  floor : 0 ≤ x.floor ∧ x.floor < next
  nacks : x.acks.length ≤ 20
  nqueue : x.queue.length ≤ 30
  rise : Rise x.floor x.acks
  high : ∀ a ∈ x.acks, a < next
  qrise : Rise x.floor (x.queue.map Msg.seq)
  qhigh : ∀ m ∈ x.queue, m.seq < next
  apart : ∀ a ∈ x.acks, ∀ m ∈ x.queue, a ≠ m.seq
  msgs : ∀ m ∈ x.queue, MsgOk clock x.most x.lease m
theorem TopicOk.len {v : List UInt8} (h : TopicOk v) : v.length ≤ 30 := by rcases h with rfl | rfl | rfl | rfl <;> decide
theorem WantOk.len {v : List UInt8} (h : WantOk v) : v.length ≤ 30 := by rcases h with rfl | rfl | rfl <;> decide
theorem MsgOk.alen {c m l : Int} {x : Msg} (h : MsgOk c m l x) : x.attr.length ≤ 30 := by rcases h.attr with e | e | e <;> rw [e] <;> decide
theorem Grown.nlen {id clock next : Nat} {x : Sub} (h : Grown id clock next x) : x.name.length ≤ 20 := by
  obtain ⟨k, _, e⟩ := h.name
  have := textL_len k 19
  rw [e]; simp; omega
structure UpTo (x : Sub) (seq : Int) : Prop where
  floor : x.floor ≤ seq
  acks : ∀ a ∈ x.acks, a ≤ seq
  queue : ∀ m ∈ x.queue, m.seq ≤ seq
theorem Grown.withNote {id clock next : Nat} {x : Sub} (h : Grown id clock next x) {s : List UInt8} (hs : s.length ≤ 30) : Grown id clock next { x with note := s } :=
  ⟨h.name, h.topic, h.want, hs, h.id, h.most, h.lease, h.floor, h.nacks, h.nqueue, h.rise, h.high, h.qrise, h.qhigh, h.apart, h.msgs⟩
theorem Grown.ack {id clock next : Nat} {x : Sub} (h : Grown id clock next x) {seq s : Int} (hu : UpTo x seq) (hs : seq < s) (hn : s < next) (hl : x.acks.length < 20) : Grown id clock next { x with acks := x.acks ++ [s] } ∧ UpTo { x with acks := x.acks ++ [s] } s := by
  have hf := hu.floor
  refine ⟨⟨h.name, h.topic, h.want, h.note, h.id, h.most, h.lease, h.floor, by simp; omega, h.nqueue, h.rise.snoc (by omega) fun a ha => by have := hu.acks a ha; omega, ?_, h.qrise, h.qhigh, ?_, h.msgs⟩, ⟨by show x.floor ≤ s; omega, ?_, fun m hm => by have := hu.queue m hm; omega⟩⟩
  · intro a ha
    rcases List.mem_append.1 ha with ha | ha
    · exact h.high a ha
    · obtain rfl := List.mem_singleton.1 ha; exact hn
  · intro a ha m hm
    rcases List.mem_append.1 ha with ha | ha
    · exact h.apart a ha m hm
    · obtain rfl := List.mem_singleton.1 ha
      have := hu.queue m hm
      omega
  · intro a ha
    rcases List.mem_append.1 ha with ha | ha
    · have := hu.acks a ha; omega
    · obtain rfl := List.mem_singleton.1 ha; exact Int.le_refl _
theorem Grown.msg {id clock next : Nat} {x : Sub} (h : Grown id clock next x) {seq : Int} {m : Msg} (hu : UpTo x seq) (hs : seq < m.seq) (hn : m.seq < next) (hl : x.queue.length < 30) (hm : MsgOk clock x.most x.lease m) : Grown id clock next { x with queue := x.queue ++ [m] } ∧ UpTo { x with queue := x.queue ++ [m] } m.seq := by
  have hf := hu.floor
  refine ⟨⟨h.name, h.topic, h.want, h.note, h.id, h.most, h.lease, h.floor, h.nacks, by simp; omega, h.rise, h.high, ?_, ?_, ?_, ?_⟩, ⟨by show x.floor ≤ m.seq; omega, fun a ha => by have := hu.acks a ha; omega, ?_⟩⟩
  · show Rise x.floor ((x.queue ++ [m]).map Msg.seq)
    rw [List.map_append]
    refine h.qrise.snoc (by omega) fun a ha => ?_
    obtain ⟨y, hy, rfl⟩ := List.mem_map.1 ha
    have := hu.queue y hy; omega
  · intro a ha
    rcases List.mem_append.1 ha with ha | ha
    · exact h.qhigh a ha
    · obtain rfl := List.mem_singleton.1 ha; exact hn
  · intro a ha y hy
    rcases List.mem_append.1 hy with hy | hy
    · exact h.apart a ha y hy
    · obtain rfl := List.mem_singleton.1 hy
      have := hu.acks a ha
      omega
  · intro y hy
    rcases List.mem_append.1 hy with hy | hy
    · exact h.msgs y hy
    · obtain rfl := List.mem_singleton.1 hy; exact hm
  · intro y hy
    rcases List.mem_append.1 hy with hy | hy
    · have := hu.queue y hy; omega
    · obtain rfl := List.mem_singleton.1 hy; exact Int.le_refl _
end Go.Proofs.YtgliemhhnkhboaaGreatDoor
end
section
set_option linter.unusedVariables false
set_option linter.unusedSimpArgs false
namespace Go.Proofs.YtgliemhhnkhboaaGreatDoor
open Go.Al
structure Pts where
  v : Nat
  t : UInt8
  id : Int
  seq : Int
  ok : Bool
def Pts.none : Pts := ⟨0, 0, 0, 0, false⟩
def parts (k : List UInt8) : Pts :=
  if k.length = 22 ∧ (48 ≤ (k.getD 0 0).toNat ∧ (k.getD 0 0).toNat ≤ 57) ∧ (97 ≤ (k.getD 1 0).toNat ∧ (k.getD 1 0).toNat ≤ 122) then
    if (goAtoi ((k.take 12).drop 2)).2 = true ∧ (goAtoi (k.drop 12)).2 = true ∧ rkey ((k.getD 0 0).toNat - 48) (k.getD 1 0) (goAtoi ((k.take 12).drop 2)).1 (goAtoi (k.drop 12)).1 = k then
      ⟨(k.getD 0 0).toNat - 48, k.getD 1 0, (goAtoi ((k.take 12).drop 2)).1, (goAtoi (k.drop 12)).1, true⟩
    else .none
  else .none
theorem goAtoi_dN (n : Int) : goAtoi (dN 10 (cl n)) = (((cl n : Nat) : Int), true) := goAtoi_ok (n := ((cl n : Nat) : Int)) (by rw [dN_length]; decide) (atoi_dN 9 (cl n) (cl_lt n))
theorem rkey_take (v : Nat) (t : UInt8) (id seq : Int) : ((rkey v t id seq).take 12).drop 2 = dN 10 (cl id) := by
  have hA := dN_length 10 (cl id)
  show ((dN 10 (cl id)) ++ (dN 10 (cl seq))).take 10 = _
  rw [List.take_append_of_le_length (by omega), List.take_of_length_le (by omega)]
theorem rkey_drop (v : Nat) (t : UInt8) (id seq : Int) : (rkey v t id seq).drop 12 = dN 10 (cl seq) := by
  have hA := dN_length 10 (cl id)
  show ((dN 10 (cl id)) ++ (dN 10 (cl seq))).drop 10 = _
  rw [List.drop_append_of_le_length (by omega), List.drop_of_length_le (by omega)]; rfl
theorem rkey_0 (v : Nat) (t : UInt8) (id seq : Int) : (rkey v t id seq).getD 0 0 = UInt8.ofNat (48 + v) := rfl
theorem rkey_1 (v : Nat) (t : UInt8) (id seq : Int) : (rkey v t id seq).getD 1 0 = t := rfl
theorem rkey_cl (v : Nat) (t : UInt8) (id seq : Int) : rkey v t (cl id : Nat) (cl seq : Nat) = rkey v t id seq := by
  have h : ∀ n : Int, cl ((cl n : Nat) : Int) = cl n := fun n => by unfold cl; omega
  simp only [rkey, h]
theorem parts_rkey {v : Nat} (hv : v < 10) {t : UInt8} (ht : 97 ≤ t.toNat ∧ t.toNat ≤ 122) (id seq : Int) : parts (rkey v t id seq) = ⟨v, t, (cl id : Nat), (cl seq : Nat), true⟩ := by
  have hb : (UInt8.ofNat (48 + v)).toNat = 48 + v := byte_val (by omega)
  rw [parts, rkey_0, rkey_1, rkey_take, rkey_drop, goAtoi_dN, goAtoi_dN, hb, rkey_length, if_pos ⟨rfl, by omega, ht⟩]
  rw [show 48 + v - 48 = v by omega]
  simp only [rkey_cl, and_self, if_true]
def partsR (k : List UInt8) : Pts :=
  if k.length = 22 ∧ (97 ≤ (k.getD 1 0).toNat ∧ (k.getD 1 0).toNat ≤ 122) then
    if rkey (goAtoi (k.take 1)).1.toNat (k.getD 1 0) (goAtoi ((k.take 12).drop 2)).1 (goAtoi (k.drop 12)).1 = k then
      ⟨(goAtoi (k.take 1)).1.toNat, k.getD 1 0, (goAtoi ((k.take 12).drop 2)).1, (goAtoi (k.drop 12)).1, true⟩
    else .none
  else .none
end Go.Proofs.YtgliemhhnkhboaaGreatDoor
end
section
set_option linter.unusedVariables false
set_option linter.unusedSimpArgs false
namespace Go.Proofs.YtgliemhhnkhboaaGreatDoor
open Go.Al
def whyN (k : Nat) : List UInt8 := if k = 0 then [] else if k = 1 then [110, 97, 99, 107] else [116, 105, 109, 101]
def rMsg (seq : Int) (v : List UInt8) (a : Nat) (f : Option Nat) : Msg × Nat × Option Nat :=
  let p1 := rText v a f 60
  let p2 := rText v p1.2.1 p1.2.2 30
  let p3 := rNum v p2.2.1 p2.2.2
  let p4 := rNum v p3.2.1 p3.2.2
  let p5 := rNum v p4.2.1 p4.2.2
  let p6 := rNum v p5.2.1 p5.2.2
  (⟨seq, p1.1, p2.1, p3.1, p4.1, decide ((0 : Int) < (p6.1 : Int)), whyN (min p6.1 2), p5.1⟩, p6.2.1, p6.2.2)
def rSub (x : Sub) (v : List UInt8) : Sub × Option Nat :=
  let p1 := rText v 0 none 30
  let p2 := rText v p1.2.1 p1.2.2 30
  let p3 := rText v p2.2.1 p2.2.2 30
  let p4 := rNum v p3.2.1 p3.2.2
  let p5 := rNum v p4.2.1 p4.2.2
  let p6 := rNum v p5.2.1 p5.2.2
  let p7 := rText v p6.2.1 p6.2.2 30
  ({ x with name := p1.1, topic := p2.1, want := p3.1, lease := p4.1, most := p5.1, floor := p6.1, note := p7.1 }, p7.2.2)
def rGaps (v : List UInt8) : Nat → Nat → Option Nat → List Int → List Int × Option Nat
  | 0, _, f, acc => (acc, f)
  | n + 1, a, f, acc => if f = none then rGaps v n (rNum v a f).2.1 (rNum v a f).2.2 (acc ++ [((rNum v a f).1 : Int)]) else (acc, f)
structure D3 where
  x : Sub
  gaps : List Int
  good : Bool
def sub0 : Sub := ⟨0, [], [], [], 0, 0, 0, [], [], []⟩
def dRow (d : D3) (r : Row) : D3 × Option Nat :=
  let p := parts r.key
  let x := { d.x with id := p.id }
  if p.t = 97 then
    let q := rNum r.val 0 none
    let g := rGaps r.val q.1 q.2.1 q.2.2 d.gaps
    (⟨x, g.1, d.good⟩, g.2)
  else if p.t = 113 then
    let m := rMsg p.seq r.val 0 none
    (⟨{ x with queue := x.queue ++ [m.1] }, d.gaps, d.good⟩, m.2.2)
  else if p.t = 115 then
    let s := rSub x r.val
    (⟨s.1, d.gaps, d.good⟩, s.2)
  else (⟨x, d.gaps, d.good⟩, none)
def gtS (a b : List UInt8) : Bool := !(ltS a b || decide (a = b))
def dStep (d : D3) (i : Nat) (prev : List UInt8) (r : Row) : D3 :=
  let q := dRow d r
  { q.1 with good := d.good && (decide (i = 0) || gtS r.key prev) && q.2.isNone }
def dRows (l : List Row) : Nat → D3
  | 0 => ⟨sub0, [], true⟩
  | i + 1 => dStep (dRows l i) i ((l[i - 1]?).getD ⟨[], []⟩).key ((l[i]?).getD ⟨[], []⟩)
def runUp (last : Int) : List Int → List Int
  | [] => []
  | g :: l => w64 (last + g) :: runUp (w64 (last + g)) l
def dSub (l : List Row) : Sub := let d := dRows l l.length; { d.x with acks := runUp d.x.floor d.gaps }
def dec3 (l : List Row) : Sub × Nat := if (dRows l l.length).good = true ∧ enc3 (dSub l) = l then (dSub l, 0) else (sub0, 11)
end Go.Proofs.YtgliemhhnkhboaaGreatDoor
end
section
set_option linter.unusedVariables false
set_option linter.unusedSimpArgs false
namespace Go.Proofs.YtgliemhhnkhboaaGreatDoor
open Go.Al
def tot (l : List Row) : Nat := (l.map fun r => r.val.length + 1).sum
structure DFit (d : D3) (n m : Nat) : Prop where
  name : d.x.name.length ≤ 1000
  topic : d.x.topic.length ≤ 1000
  want : d.x.want.length ≤ 1000
  note : d.x.note.length ≤ 1000
  acks : d.x.acks = []
  gaps : d.gaps.length ≤ n
  queue : d.x.queue.length ≤ m
  msgs : ∀ m ∈ d.x.queue, m.body.length ≤ 1000 ∧ m.attr.length ≤ 1000
end Go.Proofs.YtgliemhhnkhboaaGreatDoor
end
section
set_option linter.unusedVariables false
set_option linter.unusedSimpArgs false
namespace Go.Proofs.YtgliemhhnkhboaaGreatDoor
open Go.Al
def Up (l : List Row) : Prop := l.Pairwise fun a b => ltS a.key b.key = true
theorem Up.get {l : List Row} (h : Up l) {i : Nat} {a b : Row} (ha : l[i]? = some a) (hb : l[i + 1]? = some b) : ltS a.key b.key = true := by
  obtain ⟨h1, rfl⟩ := List.getElem?_eq_some_iff.1 ha
  obtain ⟨h2, rfl⟩ := List.getElem?_eq_some_iff.1 hb
  exact List.pairwise_iff_getElem.1 h i (i + 1) h1 h2 (by omega)
end Go.Proofs.YtgliemhhnkhboaaGreatDoor
end
section
set_option linter.unusedVariables false
namespace Go.Proofs.YtgliemhhnkhboaaGreatDoor
open Go.Al
def leS (a b : List UInt8) : Bool := ltS a b || decide (a = b)
def upTo (l : List Row) : Nat → Bool
  | 0 => true
  | i + 1 => upTo l i && (decide (i = 0) || !leS ((l[i]?.getD ⟨[], []⟩).key) ((l[i - 1]?.getD ⟨[], []⟩).key))
def note2 (x : Sub) : List Row := if x.note = [] then [] else [⟨rkey 2 110 x.id 0, txt x.note⟩]
def ack2 (x : Sub) : List Row := if x.acks = [] then [] else [⟨rkey 2 97 x.id 0, acksB x⟩]
def b2 (id : Int) (m : Msg) : Row := ⟨rkey 2 98 id m.seq, txt m.body⟩
def qB2 (m : Msg) : List UInt8 := txt m.attr ++ (num m.tries ++ (num m.until_ ++ num (deadN m)))
def q2 (id : Int) (m : Msg) : Row := ⟨rkey 2 113 id m.seq, qB2 m⟩
def sB2 (x : Sub) : List UInt8 := txt x.name ++ (txt x.topic ++ (txt x.want ++ (num x.lease ++ (num x.most ++ num x.floor))))
def s2 (x : Sub) : Row := ⟨rkey 2 115 x.id 0, sB2 x⟩
def x2 (id : Int) (m : Msg) : List Row := if m.prio ≠ 0 ∨ m.dead = true then [⟨rkey 2 120 id m.seq, xB m⟩] else []
def enc2 (x : Sub) : List Row := ack2 x ++ x.queue.map (b2 x.id) ++ note2 x ++ x.queue.map (q2 x.id) ++ [s2 x] ++ x.queue.flatMap (x2 x.id)
end Go.Proofs.YtgliemhhnkhboaaGreatDoor
end
section
set_option linter.unusedVariables false
namespace Go.Proofs.YtgliemhhnkhboaaGreatDoor
open Go.Al
def n2 (v : List UInt8) (s : Nat × Bool) : Nat × Nat × Bool :=
  if s.2 = true ∨ (getNum v s.1).2.2 ≠ 0 then (0, s.1, true) else ((getNum v s.1).1, (getNum v s.1).2.1, false)
def t2 (v : List UInt8) (s : Nat × Bool) (most : Nat) : List UInt8 × Nat × Bool :=
  if s.2 = true ∨ (getText v s.1 most).2.2 ≠ 0 then ([], s.1, true) else ((getText v s.1 most).1, (getText v s.1 most).2.1, false)
def gp2 (v : List UInt8) : Nat → Nat × Bool → List Int → List Int × Nat × Bool
  | 0, s, acc => (acc, s)
  | n + 1, s, acc => if s.2 = true then (acc, s) else gp2 v n (n2 v s).2 (acc ++ [((n2 v s).1 : Int)])
def mB (v : List UInt8) (m : Msg) : Msg := { m with body := (t2 v (0, false) 60).1 }
def mQ (v : List UInt8) (m : Msg) : Msg :=
  let p1 := t2 v (0, false) 30
  let p2 := n2 v p1.2
  let p3 := n2 v p2.2
  let p4 := n2 v p3.2
  { m with attr := p1.1, tries := p2.1, until_ := p3.1, dead := decide ((p4.1 : Int) = 1) }
def mX (v : List UInt8) (m : Msg) : Msg :=
  let p1 := n2 v (0, false)
  let p2 := n2 v p1.2
  { m with prio := p1.1, why := whyN (min p2.1 2) }
def sS (v : List UInt8) (x : Sub) : Sub :=
  let p1 := t2 v (0, false) 30
  let p2 := t2 v p1.2 30
  let p3 := t2 v p2.2 30
  let p4 := n2 v p3.2
  let p5 := n2 v p4.2
  let p6 := n2 v p5.2
  { x with name := p1.1, topic := p2.1, want := p3.1, lease := p4.1, most := p5.1, floor := p6.1 }
def msg0 (seq : Int) : Msg := ⟨seq, [], [], 0, 0, false, [], 0⟩
def updF (seq : Int) (f : Msg → Msg) : List Msg → List Msg
  | [] => []
  | m :: l => if m.seq = seq then f m :: l else m :: updF seq f l
def add2 (x : Sub) (r : Row) : Sub :=
  let p := parts r.key
  let x := { x with id := p.id }
  if p.t = 97 then { x with acks := (gp2 r.val (n2 r.val (0, false)).1 (n2 r.val (0, false)).2 x.acks).1 }
  else if p.t = 98 then { x with queue := updF p.seq (mB r.val) (x.queue ++ [msg0 p.seq]) }
  else if p.t = 110 then { x with note := (t2 r.val (0, false) 30).1 }
  else if p.t = 113 then { x with queue := updF p.seq (mQ r.val) x.queue }
  else if p.t = 115 then sS r.val x
  else if p.t = 120 then { x with queue := updF p.seq (mX r.val) x.queue }
  else x
def rows2 (l : List Row) : Sub := l.foldl add2 sub0
def fin2 (l : List Row) : Sub := let x := rows2 l; { x with acks := runUp x.floor x.acks }
def dec2 (l : List Row) : Sub × Nat := if upTo l l.length = true ∧ enc2 (fin2 l) = l then (fin2 l, 0) else (sub0, 11)
end Go.Proofs.YtgliemhhnkhboaaGreatDoor
end
section
set_option linter.unusedVariables false
set_option linter.unusedSimpArgs false
namespace Go.Proofs.YtgliemhhnkhboaaGreatDoor
open Go.Al
def wo (l : List Sub) (id : Int) : List Sub := l.filter fun x => !decide (x.id = id)
def upto (l : List Sub) (id : Int) : List Sub := l.takeWhile fun y => !decide (y.id > id)
def beyond (l : List Sub) (id : Int) : List Sub := l.dropWhile fun y => !decide (y.id > id)
def putS (l : List Sub) (x : Sub) : List Sub := upto (wo l x.id) x.id ++ x :: beyond (wo l x.id) x.id
def fnd (l : List Sub) (id : Int) : Option Sub := l.find? fun x => decide (x.id = id)
theorem upto_beyond (l : List Sub) (id : Int) : upto l id ++ beyond l id = l := List.takeWhile_append_dropWhile
theorem mem_wo {l : List Sub} {id : Int} {y : Sub} : y ∈ wo l id ↔ y ∈ l ∧ y.id ≠ id := by simp [wo, List.mem_filter]
theorem mem_put {l : List Sub} {x y : Sub} : y ∈ putS l x ↔ y = x ∨ (y ∈ l ∧ y.id ≠ x.id) := by
  rw [← mem_wo]
  conv => rhs; rw [← upto_beyond (wo l x.id) x.id]
  simp only [putS, List.mem_append, List.mem_cons]
  constructor
  · rintro (h | h | h)
    · exact .inr (.inl h)
    · exact .inl h
    · exact .inr (.inr h)
  · rintro (h | h | h)
    · exact .inr (.inl h)
    · exact .inl h
    · exact .inr (.inr h)
def Asc (l : List Sub) : Prop := l.Pairwise fun a b => a.id < b.id
theorem Asc.wo {l : List Sub} (h : Asc l) (id : Int) : Asc (wo l id) := h.filter _
theorem upto_le {l : List Sub} {id : Int} {y : Sub} (h : y ∈ upto l id) : y.id ≤ id := by
  induction l with
  | nil => cases h
  | cons z l ih =>
    rw [upto, List.takeWhile_cons] at h
    split at h
    · rename_i hz
      rcases List.mem_cons.1 h with rfl | h
      · simpa using hz
      · exact ih h
    · cases h
theorem beyond_gt {l : List Sub} (ha : Asc l) {id : Int} {y : Sub} (h : y ∈ beyond l id) : id < y.id := by
  induction l with
  | nil => cases h
  | cons z l ih =>
    rw [beyond, List.dropWhile_cons] at h
    split at h
    · exact ih (List.Pairwise.of_cons ha) h
    · rename_i hz
      have h1 : id < z.id := by simpa using hz
      rcases List.mem_cons.1 h with rfl | h
      · exact h1
      · have := (List.pairwise_cons.1 ha).1 y h; omega
theorem Asc.put {l : List Sub} (h : Asc l) (x : Sub) : Asc (putS l x) := by
  have hw := h.wo x.id
  have h0 := hw
  rw [← upto_beyond (_root_.Go.Proofs.YtgliemhhnkhboaaGreatDoor.wo l x.id) x.id, Asc, List.pairwise_append] at h0
  refine List.pairwise_append.2 ⟨h0.1, List.pairwise_cons.2 ⟨fun y hy => beyond_gt hw hy, h0.2.1⟩, fun a ha b hb => ?_⟩
  rcases List.mem_cons.1 hb with rfl | hb
  · have h1 := upto_le ha
    have h2 : a ∈ _root_.Go.Proofs.YtgliemhhnkhboaaGreatDoor.wo l b.id := by rw [← upto_beyond (_root_.Go.Proofs.YtgliemhhnkhboaaGreatDoor.wo l b.id) b.id]; exact List.mem_append_left _ ha
    have := (mem_wo.1 h2).2
    omega
  · exact h0.2.2 a ha b hb
theorem Asc.fnd {l : List Sub} (h : Asc l) {x : Sub} (hx : x ∈ l) : fnd l x.id = some x := by
  induction l with
  | nil => cases hx
  | cons y l ih =>
    rw [Go.Proofs.YtgliemhhnkhboaaGreatDoor.fnd, List.find?_cons]
    rcases List.mem_cons.1 hx with rfl | hx
    · simp
    · have h1 := (List.pairwise_cons.1 h).1 x hx
      have : decide (y.id = x.id) = false := by simp; omega
      rw [this]
      exact ih (List.Pairwise.of_cons h) hx
end Go.Proofs.YtgliemhhnkhboaaGreatDoor
end
section
set_option linter.unusedVariables false
set_option linter.unusedSimpArgs false
namespace Go.Proofs.YtgliemhhnkhboaaGreatDoor
open Go.Al
def pcs (c : UInt8) : List UInt8 → List (List UInt8)
  | [] => [[]]
  | b :: l => if b = c then [] :: pcs c l else match pcs c l with
    | p :: ps => (b :: p) :: ps
    | [] => [[b]]
theorem pcs_ne (c : UInt8) : ∀ l, pcs c l ≠ []
  | [] => by simp [pcs]
  | b :: l => by
    rw [pcs]
    split
    · simp
    · split <;> simp
theorem ix_cases (c : UInt8) : ∀ l : List UInt8, (Lib.indexByte l c = -1 ∧ pcs c l = [l]) ∨ ∃ i : Nat, Lib.indexByte l c = i ∧ i < l.length ∧ pcs c l = l.take i :: pcs c (l.drop (i + 1))
  | [] => .inl ⟨rfl, rfl⟩
  | b :: l => by
    by_cases h : b = c
    · exact .inr ⟨0, by simp [Lib.indexByte, h], by simp, by simp [pcs, h]⟩
    · rcases ix_cases c l with ⟨h1, h2⟩ | ⟨i, h1, h2, h3⟩
      · exact .inl ⟨by simp [Lib.indexByte, h, h1], by simp [pcs, h, h2]⟩
      · refine .inr ⟨i + 1, ?_, by simp; omega, by simp [pcs, h, h3]⟩
        have : (Lib.indexByte l c == -1) = false := by rw [h1]; simp
        simp [Lib.indexByte, h, this, h1]
theorem pcs_len (c : UInt8) : ∀ l : List UInt8, (pcs c l).length ≤ l.length + 1
  | [] => by simp [pcs]
  | b :: l => by
    have := pcs_len c l
    rw [pcs]
    split
    · simp; omega
    · split
      · rename_i e; rw [e] at this; simpa using Nat.le_succ_of_le this
      · simp
end Go.Proofs.YtgliemhhnkhboaaGreatDoor
end
section
set_option linter.unusedVariables false
set_option linter.unusedSimpArgs false
set_option maxRecDepth 100000
set_option maxHeartbeats 1000000
namespace Go.Proofs.YtgliemhhnkhboaaGreatDoor
open Go.Al Go.RowKit
theorem idx_any (w0 : Base) (s : List UInt8) (c : UInt8) : CallP Tryz.prog w0 108 [.str s, .str [c]] (.int .i64 (Lib.indexByte s c)) := .told fun G w vs hb hr => by
  cases hr with
  | cons h t =>
    cases t with
    | cons h2 t =>
      cases t
      cases h
      cases h2
      exact ⟨_, fun w' => .int _ _, (Tryz.stringslite_Index_one ⟨s.toArray⟩ c w).mono fun e w' ⟨he, hw⟩ => ⟨he, hw ▸ .refl _ _⟩⟩
theorem index_any (w0 : Base) (s : List UInt8) (c : UInt8) : CallP Tryz.prog w0 94 [.str s, .str [c]] (.int .i64 (Lib.indexByte s c)) := by
  refine CallP.h Ty.tok Ty.mixed Tryz.func94 rfl Tryz.ntmps94 rfl (by simp) (by decide +kernel) fun σ => ?_
  (conv => whnf); refine Hid.seq ?_; refine Hid.reg ?_; (conv => whnf); refine Hid.seq ?_; refine Hid.reg ?_; (conv => whnf); refine SCall.p (by exact idx_any w0 _ _) ?_; (conv => whnf); refine Hid.ret ?_; (conv => whnf); exact .p (.refl _) rfl
theorem pcs_drop {c : UInt8} {s rest p : List UInt8} {ps : List (List UInt8)} {k : Nat} (hd : (pcs c s).drop k = p :: ps) : k < (pcs c s).length ∧ ((pcs c s).map fun p => [AV.str p])[k]? = some [.str p] ∧ (pcs c s).drop (k + 1) = ps := by
  have hlt : k < (pcs c s).length := by
    rcases Nat.lt_or_ge k (pcs c s).length with h | h
    · exact h
    · rw [List.drop_eq_nil_of_le h] at hd; cases hd
  rw [List.drop_eq_getElem_cons hlt] at hd
  injection hd with h1 h2
  exact ⟨hlt, by simp [hlt, h1], h2⟩
theorem splitSeq_iter (w0 : Base) (s : List UInt8) (hs : s.length ≤ 9223372036854775807) (c : UInt8) (b : Nat) : IterO Tryz.prog w0 110 [] [.vp (.str [c]), .ptr b 0, .vp (.int .i64 0)] ((pcs c s).map fun p => [.str p]) [(b, [.str s])] := ⟨by
  intro l F FO I D σ hI hD hIF hDF hown hOI hOD hr h0
  obtain ⟨hb, hbF⟩ := hown _ (List.mem_singleton.2 rfl)
  replace hOI := fun k s cs h => hOI k s _ cs (List.mem_singleton.2 rfl) h
  replace hOD := fun s cs h => hOD s _ cs (List.mem_singleton.2 rfl) h
  show CallW Tryz.prog w0 110 [.fn (.yield l) [] [], .vp (.str [c]), .ptr b 0, .vp (.int .i64 0)] σ _
  refine CallW.h (B := [(b, [.str s])]) Ty.tok Ty.mixed Tryz.func110 rfl Tryz.ntmps110 rfl (by simp) (by decide +kernel) ((Know.nil σ).add hb (by simp)) ?_; (conv => whnf); refine Hid.seq ?_; refine Hid.seq ?_; refine Hid.reg ?_; (conv => whnf); refine Hid.cond rfl ?_; refine SIf.n Ty.mixed (by exact rfl) ?_; refine Xc_h ?_; (conv => whnf); refine Hid.skip ?_
  (conv => whnf); refine Hid.seq ?_; refine Hid.block ?_; refine Hid.loop ?_
  refine SLoop.by Ty.mixed (fun ((k, rest) : Nat × List UInt8) => rest.length) (fun (k, rest) => [(0, .fn (.yield l) [] []), (1, .vp (.str [c])), (2, .ptr b 0), (3, .vp (.int .i64 0))]) (fun (k, rest) => [(b, [.str rest])]) (fun (k, rest) τ => rest.length ≤ s.length ∧ (pcs c s).drop k = pcs c rest ∧ I k τ) (0, s) ⟨by repeat (first | exact trivial | refine ⟨by first | trivial | exact Weak.refl _ | exact Weak.tok _ _ _ | exact Weak.of_eq (congrArg (AV.int _) (by omega)) | exact Weak.of_eq (congrArg AV.bool (by fail)) | exact Weak.nils _ _ (.inr rfl), ?_⟩), .refl _, Nat.le_refl _, rfl, h0⟩ ?_
  rintro ⟨k, rest⟩ τ ⟨hrl, hd, hi⟩
  rcases ix_cases c rest with ⟨hix, hp⟩ | ⟨i, hix, hil, hp⟩
  · rw [hp] at hd
    obtain ⟨hk, hx, hn⟩ := pcs_drop (rest := rest) hd
    have hke : k + 1 = (pcs c s).length := by
      have := congrArg List.length hn
      simp at this
      omega
    refine Xc_h ?_; (conv => whnf); refine Hid.seq ?_; refine Hid.reg ?_; (conv => whnf); refine SLoad.on 0 rfl ?_; (conv => whnf); refine SCall.p (by exact index_any w0 _ _) ?_; (conv => whnf); refine Hid.seq ?_; refine Hid.seq ?_; refine Hid.reg ?_; (conv => whnf); refine Hid.cond rfl ?_; refine SIf.y Ty.mixed (decide_eq_true (by rw [hix]; decide)) ?_; refine Xc_h ?_; (conv => whnf)
    refine Hid.exit ?_; (conv => whnf); refine Hid.reg ?_; (conv => whnf); refine SLoad.on 0 rfl ?_; (conv => whnf); refine SYield.w (hr k _ _ hx hi) ?_; rintro r s' ⟨hkp, h⟩ hB; refine ⟨[(b, [.str rest])], (Know.nil s').add (hkp.box b _ hbF (hB.has _ (List.mem_singleton.2 rfl))) (by simp), ?_⟩
    rcases h with ⟨rfl, h⟩ | ⟨rfl, h⟩
    · (conv => whnf)
      skip
      exact .w ⟨rfl, .inl (by rw [List.length_map, ← hke]; exact h)⟩
    · (conv => whnf)
      skip
      exact .w ⟨rfl, .inr h⟩
  · rw [hp] at hd
    obtain ⟨hk, hx, hn⟩ := pcs_drop (rest := rest) hd
    refine Xc_h ?_; (conv => whnf); refine Hid.seq ?_; refine Hid.reg ?_; (conv => whnf); refine SLoad.on 0 rfl ?_; (conv => whnf); refine SCall.p (by exact index_any w0 _ _) ?_; (conv => whnf); refine Hid.seq ?_; refine Hid.seq ?_; refine Hid.reg ?_; (conv => whnf); refine Hid.cond rfl ?_; refine SIf.n Ty.mixed (decide_eq_false (by rw [hix]; omega)) ?_
    rw [hix]
    refine Xc_h ?_; (conv => whnf); refine Hid.skip ?_; (conv => whnf); refine Hid.seq ?_; refine Hid.reg ?_; (conv => whnf); refine SLoad.on 0 rfl ?_; (conv => whnf); refine ⟨_, IntWalk.i64_in _ (by omega), ?_⟩; (conv => whnf); refine And.intro (by omega) ?_; (conv => whnf); refine Hid.seq ?_; refine Hid.seq ?_; refine Hid.reg ?_; (conv => whnf)
    rw [show List.drop (Int.toNat 0) (List.take ((i : Int) + 0).toNat rest) = rest.take i by simp]
    refine SYield.w (hr k _ _ hx hi) ?_; rintro r s' ⟨hkp, h⟩ hB; refine ⟨[(b, [.str rest])], (Know.nil s').add (hkp.box b _ hbF (hB.has _ (List.mem_singleton.2 rfl))) (by simp), ?_⟩
    rcases h with ⟨rfl, h⟩ | ⟨rfl, h⟩
    · (conv => whnf)
      refine Hid.cond rfl ?_; refine SIf.n Ty.mixed (by exact rfl) ?_; refine Xc_h ?_; (conv => whnf); refine Hid.skip ?_; (conv => whnf); refine Hid.reg ?_; (conv => whnf); refine SLoad.on 0 rfl ?_; (conv => whnf); refine ⟨_, IntWalk.i64_in _ (by simp only [List.length_cons, List.length_nil]; omega), ?_⟩; (conv => whnf); refine And.intro (by simp only [List.length_cons, List.length_nil]; omega) ?_
      (conv => whnf); refine SStore.on 0 rfl ?_; (conv => whnf)
      refine ⟨(k + 1, rest.drop (i + 1)), by simp; omega, by repeat (first | exact trivial | refine ⟨by first | trivial | exact Weak.refl _ | exact Weak.tok _ _ _ | exact Weak.of_eq (congrArg (AV.int _) (by omega)) | exact Weak.of_eq (congrArg AV.bool (by fail)) | exact Weak.nils _ _ (.inr rfl), ?_⟩), ?_, by simp; omega, hn, hOI _ _ _ h⟩
      show BSub [(b, [AV.str (rest.drop (i + 1))])] _
      rw [show List.drop ((i : Int) + ([c] : List UInt8).length).toNat (List.take (rest.length : Int).toNat rest) = rest.drop (i + 1) by simp]
      exact .refl _
    · (conv => whnf)
      refine Hid.cond rfl ?_; refine SIf.y Ty.mixed (by exact rfl) ?_; refine Xc_h ?_; (conv => whnf); refine Hid.ret ?_; (conv => whnf)
      exact .w ⟨rfl, .inr h⟩⟩
theorem splitSeq_any (w0 : Base) (s : List UInt8) (c : UInt8) (σ : St) : CallW Tryz.prog w0 72 [.str s, .str [c]] σ (fun r τ => ∃ b, σ.box b = none ∧ τ = σ.setBox b [.str s] ∧ r = .fn (.func 110) [] [.vp (.str [c]), .ptr b 0, .vp (.int .i64 0)]) := by
  have inner : CallW Tryz.prog w0 96 [.str s, .str [c], .int .i64 0] σ (fun r τ => ∃ b, σ.box b = none ∧ τ = σ.setBox b [.str s] ∧ r = .fn (.func 110) [] [.vp (.str [c]), .ptr b 0, .vp (.int .i64 0)]) := by
    refine CallW.h Ty.tok Ty.mixed Tryz.func96 rfl Tryz.ntmps96 rfl (by simp) (by decide +kernel) (.nil σ) ?_; (conv => whnf); refine Hid.seq ?_; refine Hid.reg ?_; (conv => whnf); refine SBox.b rfl ?_; (conv => whnf); intro b1 hb1; (conv => whnf); refine SBox.f ?_; (conv => whnf); refine SBox.f ?_; (conv => whnf); refine Hid.seq ?_; refine Hid.reg ?_
    (conv => whnf); refine Hid.ret ?_; (conv => whnf); exact .w ⟨b1, hb1, rfl, rfl⟩
  refine CallW.h Ty.tok Ty.mixed Tryz.func72 rfl Tryz.ntmps72 rfl (by simp) (by decide +kernel) (.nil σ) ?_; (conv => whnf); refine Hid.seq ?_; refine Hid.reg ?_; (conv => whnf); refine Hid.seq ?_; refine Hid.reg ?_; (conv => whnf)
  skip
  refine SCall.w inner rfl ?_; rintro r τ ⟨b, hb, rfl, rfl⟩ hB; refine ⟨_, hB.new hb, ?_⟩; (conv => whnf); refine Hid.ret ?_; (conv => whnf)
  skip
  exact .w ⟨b, hb, rfl, rfl⟩
end Go.Proofs.YtgliemhhnkhboaaGreatDoor
end
section
set_option linter.unusedVariables false
set_option linter.unusedSimpArgs false
set_option maxRecDepth 100000
set_option maxHeartbeats 1000000
namespace Go.Proofs.YtgliemhhnkhboaaGreatDoor
open Go.Al Go.RowKit
def rightT (s : List UInt8) : Bool := (pcs 47 s).all wordS && decide (s.length ≤ 30)
theorem all_take_on {α : Type} {f : α → Bool} {l : List α} {k : Nat} {x : α} (hx : l[k]? = some x) (h : ∀ y ∈ l.take k, f y = true) (hf : f x = true) : ∀ y ∈ l.take (k + 1), f y = true := by
  obtain ⟨hk, e⟩ := List.getElem?_eq_some_iff.1 hx
  intro y hy
  rw [List.take_succ_eq_append_getElem hk] at hy
  rcases List.mem_append.1 hy with hy | hy
  · exact h y hy
  · obtain rfl := List.mem_singleton.1 hy; rw [e]; exact hf
theorem all_no {α : Type} {f : α → Bool} {l : List α} {k : Nat} {x : α} (hx : l[k]? = some x) (hf : f x = false) : l.all f = false :=
  List.all_eq_false.2 ⟨x, List.mem_of_getElem? hx, by simp [hf]⟩
theorem all_yes {α : Type} {f : α → Bool} {l : List α} {k : Nat} (hk : k = l.length) (h : ∀ y ∈ l.take k, f y = true) : l.all f = true :=
  List.all_eq_true.2 fun y hy => h y (by rwa [List.take_of_length_le (by omega)])
theorem map_str_get {l : List (List UInt8)} {k : Nat} {xs : List AV} (hx : (l.map fun p => [AV.str p])[k]? = some xs) : ∃ p, l[k]? = some p ∧ xs = [.str p] := by
  rw [List.getElem?_map] at hx
  obtain ⟨p, h1, h2⟩ := Option.map_eq_some_iff.1 hx
  exact ⟨p, h1, h2.symm⟩
theorem right_any (w0 : Base) (s : List UInt8) (hs : s.length ≤ 9223372036854775807) : CallP Tryz.prog w0 69 [.str s] (.bool (rightT s)) := by
  refine CallP.h Ty.tok Ty.mixed Tryz.func69 rfl Tryz.ntmps69 rfl (by simp) (by decide +kernel) fun σ => ?_
  (conv => whnf); refine Hid.seq ?_; refine Hid.reg ?_; (conv => whnf); intro b2 hb2; (conv => whnf); refine Hid.seq ?_; refine Hid.seq ?_; refine Hid.reg ?_; (conv => whnf); refine SCall.w (splitSeq_any w0 s 47 _) rfl ?_; rintro r τ ⟨b, hb, rfl, rfl⟩ hB; refine ⟨_, hB.new hb, ?_⟩
  have hb0 := le_none (le_new (.refl _) hb2) hb
  have hne : b ≠ b2 := fun e => by subst e; rw [setBox_same] at hb; cases hb
  have hle0 : St.Le σ ((σ.setBox b2 [.bool false]).setBox b [.str s]) := le_new (le_new (.refl _) hb2) hb
  (conv => whnf); refine Hid.block ?_; refine Hid.range ?_
  skip
  refine Stop.rangeOH Ty.tok Ty.mixed (f := 110) (first := []) (cap := [.vp (.str [47]), .ptr b 0, .vp (.int .i64 0)]) rfl [6] rfl (by simp) (by decide +kernel) (by decide +kernel) (by simp) (splitSeq_iter w0 s hs 47 b) [b2] [] (fun k : Nat => k) (fun _ => [(b2, [.bool false])]) (fun k τ => (k ≤ (pcs 47 s).length ∧ ∀ p ∈ (pcs 47 s).take k, wordS p = true) ∧ St.Le σ τ) 0 (fun _ : Unit => .ret) (fun _ => [(b2, [.bool false])]) (fun _ τ => (pcs 47 s).all wordS = false ∧ St.Le σ τ)
    (fun a => (Free.pure _).and (.le hle0)) (fun _ => (Free.pure _).and (.le hle0)) (by simp) (by simp) (by simp) (by simp) (by simp) (by simp) (by simp) rfl (.drop (.refl _)) ⟨⟨Nat.zero_le _, by simp⟩, hle0⟩
    (by simpa using hne) (by simpa using hne) (by simpa using hne) (fun a τ q cs hq h => ⟨h.1, by obtain rfl := List.mem_singleton.1 hq; exact le_setBox h.2 hb0⟩) (fun a τ q cs hq h => ⟨h.1, by obtain rfl := List.mem_singleton.1 hq; exact le_setBox h.2 hb0⟩) ?_ ?_ ?_
  · rintro k τ xs ⟨⟨hk, hw⟩, hle⟩ hK hx
    obtain ⟨p, hp, rfl⟩ := map_str_get hx
    (conv => whnf); refine Hid.reg ?_; (conv => whnf)
    skip
    refine ⟨rfl, .refl _ _ _, fun l q hl => ?_⟩
    (conv => whnf); refine Hid.seq ?_; refine Hid.reg ?_; (conv => whnf); refine SCall.p (by exact word_any w0 p) ?_; (conv => whnf); refine Hid.cond rfl ?_
    by_cases hwp : wordS p = true
    · refine SIf.n Ty.mixed (by simp [hwp]) ?_
      refine Xc_h ?_; (conv => whnf); refine Hid.skip ?_; (conv => whnf)
      exact ⟨.refl _ _ _, k + 1, rfl, .refl _, ⟨(List.getElem?_eq_some_iff.1 hp).1, all_take_on hp hw hwp⟩, le_setObj hle hl⟩
    · replace hwp : wordS p = false := by simpa using hwp
      refine SIf.y Ty.mixed (by simp [hwp]) ?_; refine Xc_h ?_; (conv => whnf); refine Hid.seq ?_; refine Hid.reg ?_; (conv => whnf); refine SStore.on 0 rfl ?_; (conv => whnf); refine Hid.ret ?_; (conv => whnf)
      refine ⟨⟨fun i cs hi h => ?_, fun _ _ _ h => h⟩, (), rfl, .refl _, all_no hp hwp, le_setBox (le_setObj hle hl) hb2⟩
      rw [setBox_ne (by simpa using hi)]; exact h
  · rintro k τ hk ⟨⟨_, hw⟩, hle⟩ hK
    have ha := all_yes (f := wordS) (by simpa using hk) hw
    (conv => whnf); refine Hid.seq ?_; refine Hid.reg ?_; (conv => whnf); refine SStore.on 0 rfl ?_; (conv => whnf); refine Hid.ret ?_; (conv => whnf); refine SLoad.on 0 rfl ?_; (conv => whnf); exact .p (le_setBox hle hb2) (by rw [rightT, ha, Bool.true_and]; exact congrArg AV.bool (decide_eq_decide.2 (by omega)))
  · rintro _ τ ⟨ha, hle⟩ hK
    (conv => whnf); refine SLoad.on 0 rfl ?_; (conv => whnf); exact .p hle (by simp [rightT, ha])
def trimT (p : List UInt8) : List UInt8 := Lib.trimSuffix p [47, 35]
def plusW (w : List UInt8) : Bool := decide (w = [43]) || wordS w
def patT (p : List UInt8) : Bool := decide (p = [35]) || (pcs 47 (trimT p)).all plusW && decide (p.length ≤ 30)
theorem trimT_len (p : List UInt8) : (trimT p).length ≤ p.length := by
  unfold trimT Lib.trimSuffix
  split
  · simp
  · exact Nat.le_refl _
theorem trim_any (w0 : Base) (p : List UInt8) (hp : p.length ≤ 9223372036854775807) : CallP Tryz.prog w0 71 [.str p, .str [47, 35]] (.str (trimT p)) := .told fun G w vs hb hr => by
  cases hr with
  | cons h t =>
    cases t with
    | cons h2 t =>
      cases t
      cases h
      cases h2
      exact ⟨_, fun w' => .str _, (Tryz.strings_TrimSuffix ⟨p.toArray⟩ ⟨#[47, 35]⟩ w (by simpa [ByteArray.size] using hp)).mono fun e w' ⟨he, hw⟩ => ⟨he, hw ▸ .refl _ _⟩⟩
theorem pattern_any (w0 : Base) (s : List UInt8) (hs : s.length ≤ 9223372036854775807) : CallP Tryz.prog w0 54 [.str s] (.bool (patT s)) := by
  refine CallP.h Ty.tok Ty.mixed Tryz.func54 rfl Tryz.ntmps54 rfl (by simp) (by decide +kernel) fun σ => ?_
  (conv => whnf); refine Hid.seq ?_; refine Hid.reg ?_; (conv => whnf); intro b2 hb2; (conv => whnf); refine Hid.seq ?_; refine Hid.seq ?_; refine Hid.reg ?_; (conv => whnf); refine Hid.cond rfl ?_; refine SIf.x Ty.mixed (fun hc => ?_) (fun hc => ?_); refine Xc_h ?_; (conv => whnf); refine Hid.seq ?_; refine Hid.reg ?_; (conv => whnf); rotate_left; refine Xc_h ?_; (conv => whnf); refine Hid.skip ?_
  (conv => whnf); refine Hid.seq ?_; refine Hid.reg ?_; (conv => whnf)
  rotate_right
  · refine SStore.on 0 rfl ?_
    (conv => whnf); refine Hid.ret ?_; (conv => whnf); refine SLoad.on 0 rfl ?_; (conv => whnf); exact .p (le_new2 (.refl _) hb2) (by simp at hc; simp [patT, hc])
  refine SCall.p (by exact trim_any w0 s hs) ?_; (conv => whnf); refine Hid.seq ?_; refine Hid.seq ?_; refine Hid.reg ?_; (conv => whnf)
  have hts := Nat.le_trans (trimT_len s) hs
  refine SCall.w (splitSeq_any w0 (trimT s) 47 _) rfl ?_; rintro r τ ⟨b, hb, rfl, rfl⟩ hB; refine ⟨_, hB.new hb, ?_⟩
  have hb0 := le_none (le_new (.refl _) hb2) hb
  have hne : b ≠ b2 := fun e => by subst e; rw [setBox_same] at hb; cases hb
  have hle0 : St.Le σ ((σ.setBox b2 [.bool false]).setBox b [.str (trimT s)]) := le_new (le_new (.refl _) hb2) hb
  (conv => whnf); refine Hid.block ?_; refine Hid.range ?_
  skip
  refine Stop.rangeOH Ty.tok Ty.mixed (f := 110) (first := []) (cap := [.vp (.str [47]), .ptr b 0, .vp (.int .i64 0)]) rfl [11] rfl (by simp) (by decide +kernel) (by decide +kernel) (by simp) (splitSeq_iter w0 (trimT s) hts 47 b) [b2] [] (fun k : Nat => k) (fun _ => [(b2, [.bool false])]) (fun k τ => (k ≤ (pcs 47 (trimT s)).length ∧ ∀ p ∈ (pcs 47 (trimT s)).take k, plusW p = true) ∧ St.Le σ τ) 0 (fun _ : Unit => .ret) (fun _ => [(b2, [.bool false])]) (fun _ τ => (pcs 47 (trimT s)).all plusW = false ∧ St.Le σ τ)
    (fun a => (Free.pure _).and (.le hle0)) (fun _ => (Free.pure _).and (.le hle0)) (by simp) (by simp) (by simp) (by simp) (by simp) (by simp) (by simp) rfl (.drop (.refl _)) ⟨⟨Nat.zero_le _, by simp⟩, hle0⟩
    (by simpa using hne) (by simpa using hne) (by simpa using hne) (fun a τ q cs hq h => ⟨h.1, by obtain rfl := List.mem_singleton.1 hq; exact le_setBox h.2 hb0⟩) (fun a τ q cs hq h => ⟨h.1, by obtain rfl := List.mem_singleton.1 hq; exact le_setBox h.2 hb0⟩) ?_ ?_ ?_
  · rintro k τ xs ⟨⟨hk, hw⟩, hle⟩ hK hx
    obtain ⟨p, hp, rfl⟩ := map_str_get hx
    (conv => whnf); refine Hid.reg ?_; (conv => whnf)
    skip
    refine ⟨rfl, .refl _ _ _, fun l q hl => ?_⟩
    (conv => whnf); refine Hid.seq ?_; refine Hid.reg ?_; (conv => whnf); refine SCond.mk (fun hc => ?_) (fun hc => ?_); (conv => whnf); rotate_left; (conv => whnf)
    rotate_right
    refine SCond.y (by assumption) ?_; (conv => whnf); refine SCall.p (by exact word_any w0 p) ?_; (conv => whnf); refine SCond.y (by assumption) ?_; (conv => whnf); refine SPick.y (by assumption) ?_; (conv => whnf); refine Hid.cond rfl ?_; refine SIf.x Ty.mixed (fun hc => ?_) (fun hc => ?_); refine Xc_h ?_; (conv => whnf); refine Hid.seq ?_; refine Hid.reg ?_; (conv => whnf); rotate_left
    refine Xc_h ?_; (conv => whnf); refine Hid.skip ?_; (conv => whnf)
    rotate_right
    refine SStore.on 0 rfl ?_; (conv => whnf); refine Hid.ret ?_; (conv => whnf); rotate_left; rotate_left; refine SCond.n (by assumption) ?_; (conv => whnf); refine SCond.n (by assumption) ?_; (conv => whnf); refine SPick.n (by assumption) ?_; (conv => whnf); refine Hid.cond rfl ?_; refine SIf.n Ty.mixed (by exact rfl) ?_; refine Xc_h ?_; (conv => whnf); refine Hid.skip ?_; (conv => whnf)
    rotate_left
    all_goals first
      | exact ⟨.refl _ _ _, k + 1, rfl, .refl _, ⟨(List.getElem?_eq_some_iff.1 hp).1, all_take_on hp hw (by clear hK hle hw hx; simp_all [plusW])⟩, le_setObj hle hl⟩
      | (refine ⟨⟨fun i cs hi h => ?_, fun _ _ _ h => h⟩, (), rfl, .refl _, all_no hp (by clear hK hle hw hx; simp_all [plusW]), le_setBox (le_setObj hle hl) hb2⟩
         rw [setBox_ne (by simpa using hi)]; exact h)
  · rintro k τ hk ⟨⟨_, hw⟩, hle⟩ hK
    have ha := all_yes (f := plusW) (by simpa using hk) hw
    (conv => whnf); refine Hid.seq ?_; refine Hid.reg ?_; (conv => whnf); refine SStore.on 0 rfl ?_; (conv => whnf); refine Hid.ret ?_; (conv => whnf); refine SLoad.on 0 rfl ?_; (conv => whnf)
    have hn35 : ¬ s = [35] := by simpa using hc
    refine .p (le_setBox hle hb2) ?_
    rw [patT, ha, decide_eq_false hn35, Bool.false_or, Bool.true_and]
    exact congrArg AV.bool (decide_eq_decide.2 (by omega))
  · rintro _ τ ⟨ha, hle⟩ hK
    (conv => whnf); refine SLoad.on 0 rfl ?_; (conv => whnf)
    have hn35 : ¬ s = [35] := by simpa using hc
    refine .p hle ?_
    rw [patT, ha, decide_eq_false hn35]; rfl
end Go.Proofs.YtgliemhhnkhboaaGreatDoor
end
section
set_option linter.unusedVariables false
set_option linter.unusedSimpArgs false
set_option maxRecDepth 100000
set_option maxHeartbeats 1000000
namespace Go.Proofs.YtgliemhhnkhboaaGreatDoor
open Go.Al Go.RowKit
open Go.Shelf Go.Lib in
theorem split_one {P : Program} {ρ : Ren} (L : Lays.n146 P ρ) (hi9 : (P.info? (ρ.t 9)).map (fun i => (i.zero, i.size, i.bytes)) = some (some (.string ByteArray.empty), 1, 16)) (s : ByteArray) (c : UInt8) (w : World) (hs : s.size < 4294967281) :
    Calls P (ρ.f 146) #[.string s, .string ⟨#[c]⟩] w fun e w' =>
      e = .returned (.slice (some ⟨w.heap.size, 0, none⟩) (Lib.countB s ⟨#[c]⟩ + 1) (Lib.countB s ⟨#[c]⟩ + 1)) ∧ w' = w.alloc (.cells ((Lib.splitB ⟨#[c]⟩ 0 (Lib.countB s ⟨#[c]⟩) s).map Value.string).toArray (ρ.t 9)) := by
  have h1 : 1 ≤ (⟨#[c]⟩ : ByteArray).size := Nat.le_refl _
  have hle := Lib.countB_le ⟨#[c]⟩ h1 s.size s (Nat.le_refl _)
  have hlen := Lib.splitB_all ⟨#[c]⟩ h1 0 _ s rfl
  have hI : ∀ (x : ByteArray) (cc : Array Value), x.size ≤ s.size → Calls P (ρ.f 143) #[.string x, .string ⟨#[c]⟩] (w.alloc (.cells cc (ρ.t 9))) fun e w' => e = .returned (.int .i64 (Lib.indexB x ⟨#[c]⟩)) ∧ w' = w.alloc (.cells cc (ρ.t 9)) := fun x cc _ =>
    (Any.strings_Index_one { L with } x c _).mono fun e w' ⟨he, hw⟩ => ⟨by rw [he, ← Lib.index_one], hw⟩
  have hC : Calls P (ρ.f 138) #[.string s, .string ⟨#[c]⟩] w fun e w' => e = .returned (.int .i64 (Lib.countB s ⟨#[c]⟩)) ∧ w' = w :=
    (Any.strings_Count_one { L with } s c w).mono fun e w' ⟨he, hw⟩ => ⟨by
      rw [he]
      show _ = Ending.returned (Value.int .i64 ((Lib.count s.data.toList [c] : Nat) : Int))
      rw [Lib.count_one]
      rfl, hw⟩
  have k := Any.strings_genSplit_core { L with } hi9 s ⟨#[c]⟩ 0 (-1) (Lib.countB s ⟨#[c]⟩ + 1) w hs h1 (Nat.zero_le _) hI hC (by decide) (by decide) (by rw [if_pos (by decide)]; omega)
  rw [Nat.add_sub_cancel, hlen] at k
  have e2 : Lib.cellsOf (Lib.splitB ⟨#[c]⟩ 0 (Lib.countB s ⟨#[c]⟩) s) (Lib.countB s ⟨#[c]⟩ + 1) = ((Lib.splitB ⟨#[c]⟩ 0 (Lib.countB s ⟨#[c]⟩) s).map Value.string).toArray := by rw [← hlen]; exact Lib.cellsOf_full _
  rw [e2] at k
  have t3 := L.t3; have t9 := L.t9; have t31 := L.t31
  have a3 := L.a3; have a9 := L.a9; have a31 := L.a31
  have z3 := L.z3; have v3 := L.v3; have z9 := L.z9; have v9 := L.v9; have z31 := L.z31; have v31 := L.v31
  have e221 : ∀ args w, (callFunc (ρ.f 221) args).run P w = .ok (.enter (ρ.f 221) args) w := enters_of L.f221 (by kernel_rfl) rfl
  go_enter L.f146, Body.n146_ntmps ρ
  go_wp2_with (go_at_fn (ρ.f 221); refine k.mono ?_; rintro e w' ⟨rfl, hw⟩; rw [hw])
  go_ret
  exact ⟨rfl, rfl⟩
theorem ix_count {c : UInt8} {s : List UInt8} {i : Nat} (h : Lib.indexByte s c = i) : s.count c = (s.drop (i + 1)).count c + 1 := by
  obtain ⟨h1, h2⟩ := Lib.indexByte_some h
  obtain ⟨hi, e⟩ := List.getElem?_eq_some_iff.1 h1
  have h0 : (s.take i).count c = 0 := List.count_eq_zero.2 fun hm => by
    obtain ⟨k, hk, ek⟩ := List.mem_iff_getElem.1 hm
    have hki : k < i := by simp at hk; omega
    have hks : k < s.length := by omega
    exact h2 k hki (by rw [List.getElem?_eq_getElem hks]; rw [List.getElem_take] at ek; rw [ek])
  conv => lhs; rw [← List.take_append_drop i s, List.count_append, h0, List.drop_eq_getElem_cons hi, e, List.count_cons_self]
  omega
theorem splitK_pcs (c : UInt8) : ∀ (k : Nat) (s : List UInt8), s.count c ≤ k → Lib.splitK [c] 0 k s = pcs c s
  | 0, s, h => by
    rcases ix_cases c s with ⟨_, h2⟩ | ⟨i, h1, h2, h3⟩
    · rw [h2]; rfl
    · have := ix_count h1; omega
  | k + 1, s, h => by
    rcases ix_cases c s with ⟨h1, h2⟩ | ⟨i, h1, h2, h3⟩
    · rw [h2, Lib.splitK, Lib.index_one, h1]; rfl
    · have hc := ix_count h1
      have hb : ((i : Int) == -1) = false := beq_eq_false_iff_ne.2 (by omega)
      rw [h3, Lib.splitK, Lib.index_one, h1, hb]
      simp only [Bool.false_eq_true, if_false, Int.toNat_natCast, Nat.add_zero, List.length_cons, List.length_nil, Nat.zero_add]
      rw [splitK_pcs c k _ (by omega)]
def strs (l : List (List UInt8)) : List AV := l.map .str
theorem strs_rel {G : Gh} {w : World} : ∀ l : List (List UInt8), RelL G w ((strs l).flatMap AV.cells) (l.map bstr)
  | [] => .nil
  | p :: l => .cons (.str p) (strs_rel l)
theorem split_any (w0 : Base) (s : List UInt8) (c : UInt8) (hs : s.length < 4294967281) : CallP Tryz.prog w0 97 [.str s, .str [c]] (.slc 1 (strs (pcs c s)) .no) := .fresh fun G w vs hb hr => by
  cases hr with
  | cons h t =>
    cases t with
    | cons h2 t =>
      cases t
      cases h
      cases h2
      refine (split_one Tryz.lays146 (by kernel_rfl) ⟨s.toArray⟩ c w (by simpa [ByteArray.size] using hs)).mono ?_; rintro e w' ⟨rfl, rfl⟩
      have hcn : Lib.countB ⟨s.toArray⟩ ⟨#[c]⟩ = s.count c := by show Lib.count s [c] = _; rw [Lib.count_one]
      have hle : s.count c ≤ s.length := List.count_le_length
      have hd := Lib.splitB_data ⟨#[c]⟩ 0 (Lib.countB ⟨s.toArray⟩ ⟨#[c]⟩) ⟨s.toArray⟩
      have hpl := Lib.splitB_all ⟨#[c]⟩ (Nat.le_refl _) 0 _ ⟨s.toArray⟩ rfl
      rw [hcn] at hd hpl ⊢
      replace hd : (Lib.splitB ⟨#[c]⟩ 0 (s.count c) ⟨s.toArray⟩).map (·.data.toList) = pcs c s := by rw [hd]; exact splitK_pcs c _ s (Nat.le_refl _)
      have hv : (Lib.splitB ⟨#[c]⟩ 0 (s.count c) ⟨s.toArray⟩).map Value.string = (pcs c s).map bstr := by
        rw [← hd, List.map_map]
        exact List.map_congr_left fun x _ => rfl
      have hn : (pcs c s).length = s.count c + 1 := by rw [← hd, List.length_map, hpl]
      rw [hv]
      generalize Tryz.lays146_ren.t 9 = T9
      have hsz : (w.alloc (.cells ((pcs c s).map bstr).toArray T9)).heap.size = w.heap.size + 1 := by show (w.heap.push _).size = _; rw [Array.size_push]
      have hnew : (w.alloc (.cells ((pcs c s).map bstr).toArray T9)).heap[w.heap.size]? = some (.cells ((pcs c s).map bstr).toArray T9) := by show (w.heap.push _)[w.heap.size]? = _; rw [Array.getElem?_push, if_pos rfl]
      refine ⟨_, rfl, ⟨rfl, rfl, rfl, by rw [hsz]; omega, fun k hk => by show (w.heap.push _)[k]? = _; rw [Array.getElem?_push, if_neg (by omega)]⟩, .slc (vs := (pcs c s).map bstr) (by rw [strs, List.length_map, hn]) (Nat.le_refl _) (by simp only [maxLen]; omega) (fun x hx => ?_) (strs_rel _) (fun k v hk => ?_) trivial⟩
      · obtain ⟨p, _, rfl⟩ := List.mem_map.1 hx
        exact ⟨rfl, fun c hc => by obtain rfl := List.mem_singleton.1 hc; rfl⟩
      · refine ⟨w.heap.size, 0, rfl, .inr (.inr ⟨Nat.le_refl _, by rw [hsz]; omega⟩), ?_⟩
        rw [cell_block hnew, Nat.zero_add]
        simpa using hk
end Go.Proofs.YtgliemhhnkhboaaGreatDoor
end
section
set_option linter.unusedVariables false
set_option linter.unusedSimpArgs false
set_option maxHeartbeats 400000
namespace Go.Proofs.YtgliemhhnkhboaaGreatDoor
open Go.Al Go.RowKit
end Go.Proofs.YtgliemhhnkhboaaGreatDoor
end
section
set_option linter.unusedVariables false
set_option linter.unusedSimpArgs false
set_option maxRecDepth 100000
set_option maxHeartbeats 1000000
namespace Go.Proofs.YtgliemhhnkhboaaGreatDoor
open Go.Al Go.RowKit
theorem sub48 {c : UInt8} (h : 48 ≤ c.toNat ∧ c.toNat ≤ 57) : IntKind.i64.wrap (((Al.byteOf ((c.toNat : Int) - 48)).toNat : Nat) : Int) = ((c.toNat - 48 : Nat) : Int) := by
  have e : ((c.toNat : Int) - 48) = ((c.toNat - 48 : Nat) : Int) := by omega
  rw [e, byteOf_toNat _ (by omega), IntWalk.i64_in _ (by omega)]
end Go.Proofs.YtgliemhhnkhboaaGreatDoor
end
section
set_option linter.unusedVariables false
set_option linter.unusedSimpArgs false
set_option maxRecDepth 100000
set_option maxHeartbeats 2000000
namespace Go.Proofs.YtgliemhhnkhboaaGreatDoor
open Go.Al Go.RowKit
def ePts (p : Pts) : AV := .tup [.int .i64 p.v, .int .u8 p.t.toNat, .int .i64 p.id, .int .i64 p.seq, .bool p.ok]
theorem getD_get {k : List UInt8} {i : Nat} (h : i < k.length) : k[i]? = some (k.getD i 0) := by simp [List.getD, h]
theorem a_nilEn {E : AEnv} {x y : Operand} {yt : TypeId} {b : Bool} (hx : aeval E x = eErr b) (hy : y = .const .nilIface) : Al.Yields Tryz.prog E (.binOp .neq 69 x y yt) (.bool (!b)) := by
  subst hy
  cases b
  · exact a_nilI hx rfl (.inr ⟨_, _, rfl⟩) rfl rfl rfl
  · exact a_nilI hx rfl (.inl rfl) rfl rfl rfl
theorem partsS_any (w0 : Base) (hL : Laid w0) (k : List UInt8) (hk : k.length ≤ 1000000) : CallP Tryz.prog w0 21 [.str k] (ePts (parts k)) := by
  refine CallP.start Tryz.func21 rfl Tryz.ntmps21 (by simp) fun σ Q hQ => ?_
  by_cases h0 : ¬ k.length = 22
  · have d0 : (!decide (((k.length : Nat) : Int) = 22)) = true := by simp; omega
    rw [parts, if_neg (fun h => h0 h.1)] at hQ
    refine W.seq ?_; refine W.regionL (by decide +kernel) rfl ?_; apply r_op; exact rfl; exact rfl; apply a_assign; (conv => (lhs; whnf)); apply r_op; exact rfl; exact rfl; apply a_assign; (conv => (lhs; whnf)); apply r_op; exact rfl; exact rfl; apply a_assign; (conv => (lhs; whnf)); apply r_op; exact rfl; exact rfl; apply a_assign; (conv => (lhs; whnf)); apply r_op; exact rfl; exact rfl
    apply a_assign; (conv => (lhs; whnf)); (with_reducible refine runs_done ?_); refine W.seq ?_; refine W.seq ?_; refine W.regionL (by decide +kernel) rfl ?_; apply r_op; exact rfl; exact rfl; apply a_move; (conv => (lhs; whnf)); apply r_op; exact rfl; exact rfl; apply g_call; exact a_len_str rfl; apply r_op; exact rfl; exact rfl; apply g_binOp; exact a_binI rfl rfl rfl; apply r_op; exact rfl
    exact rfl; apply a_move; (conv => (lhs; whnf)); apply q_skip; exact rfl; exact want_f rfl rfl rfl (by assumption); apply q_skip; exact rfl; exact want_f rfl rfl rfl (by assumption); apply q_skip; exact rfl; exact want_f rfl rfl rfl (by assumption); apply r_op; exact rfl; exact rfl; apply g_pick; apply a_pickT rfl (by assumption); (conv => (lhs; whnf)); apply r_op; exact rfl; exact rfl
    apply a_move; (conv => (lhs; whnf)); apply q_skip; exact rfl; exact want_f rfl rfl rfl (by exact rfl); apply q_skip; exact rfl; exact want_f rfl rfl rfl (by exact rfl); apply q_skip; exact rfl; exact want_f rfl rfl rfl (by exact rfl); apply r_op; exact rfl; exact rfl; apply g_pick; apply a_pickT rfl (by exact rfl); (conv => (lhs; whnf)); apply r_op; exact rfl; exact rfl; apply a_move
    (conv => (lhs; whnf)); apply q_skip; exact rfl; exact want_f rfl rfl rfl (by exact rfl); apply q_skip; exact rfl; exact want_f rfl rfl rfl (by exact rfl); apply q_skip; exact rfl; exact want_f rfl rfl rfl (by exact rfl); apply r_op; exact rfl; exact rfl; apply g_pick; apply a_pickT rfl (by exact rfl); (conv => (lhs; whnf)); apply r_op; exact rfl; exact rfl; apply a_move; (conv => (lhs; whnf))
    apply q_skip; exact rfl; exact want_f rfl rfl rfl (by exact rfl); apply q_skip; exact rfl; exact want_f rfl rfl rfl (by exact rfl); apply q_skip; exact rfl; exact want_f rfl rfl rfl (by exact rfl); apply r_op; exact rfl; exact rfl; apply g_pick; apply a_pickT rfl (by exact rfl); (conv => (lhs; whnf)); (with_reducible refine runs_done ?_); refine W.condT rfl (by exact rfl) ?_; refine W.seq ?_
    refine W.regionL (by decide +kernel) rfl ?_; apply r_op; exact rfl; exact rfl; apply a_assign; (conv => (lhs; whnf)); apply r_op; exact rfl; exact rfl; apply a_assign; (conv => (lhs; whnf)); apply r_op; exact rfl; exact rfl; apply a_assign; (conv => (lhs; whnf)); apply r_op; exact rfl; exact rfl; apply a_assign; (conv => (lhs; whnf)); apply r_op; exact rfl; exact rfl; apply a_assign
    (conv => (lhs; whnf)); (with_reducible refine runs_done ?_); refine W.ret ?_; show Q Exit.ret _ _; refine post_q hQ (by apply res_tmp; exact rfl; apply res_tmp; exact rfl; apply res_tmp; exact rfl; apply res_tmp; exact rfl; apply res_tmp; exact rfl; exact res_nil) (.inl rfl) (by exact .refl _) ?_; (conv => (lhs; whnf)); rfl
  have h0 := Decidable.of_not_not h0
  have d0 : (!decide (((k.length : Nat) : Int) = 22)) = false := by simp [h0]
  have g0 : k[(0 : Int).toNat]? = some (k.getD 0 0) := getD_get (by omega)
  have g1 : k[(1 : Int).toNat]? = some (k.getD 1 0) := getD_get (by omega)
  have hA1 := goAtoi_any w0 hL ((k.take (12 : Int).toNat).drop (2 : Int).toNat) (by simp; omega)
  have hA2 := goAtoi_any w0 hL ((k.take ((k.length : Nat) : Int).toNat).drop (12 : Int).toNat) (by simp; omega)
  have e1 : (k.take 12).drop 2 = (k.take (12 : Int).toNat).drop (2 : Int).toNat := rfl
  have e2 : k.drop 12 = (k.take ((k.length : Nat) : Int).toNat).drop (12 : Int).toNat := by rw [Int.toNat_natCast, List.take_length]; rfl
  have hp : parts k = if k.length = 22 ∧ (48 ≤ (k.getD 0 0).toNat ∧ (k.getD 0 0).toNat ≤ 57) ∧ (97 ≤ (k.getD 1 0).toNat ∧ (k.getD 1 0).toNat ≤ 122) then _ else _ := rfl
  rw [e1, e2] at hp
  generalize k.getD 0 0 = c0 at g0 hp
  generalize k.getD 1 0 = t at g1 hp
  generalize goAtoi ((k.take (12 : Int).toNat).drop (2 : Int).toNat) = A1 at hA1 hp
  generalize goAtoi ((k.take ((k.length : Nat) : Int).toNat).drop (12 : Int).toNat) = A2 at hA2 hp
  obtain ⟨a, ba⟩ := A1
  obtain ⟨b, bb⟩ := A2
  dsimp only at hA1 hA2 hp
  have hK : 48 ≤ c0.toNat ∧ c0.toNat ≤ 57 → CallP Tryz.prog w0 22 [.int .i64 (IntKind.i64.wrap (((Al.byteOf ((c0.toNat : Int) - 48)).toNat : Nat) : Int)), .int .u8 t.toNat, .int .i64 a, .int .i64 b] (.str (rkey (c0.toNat - 48) t a b)) := fun h => by
    rw [sub48 h]
    exact keyS_any w0 hL _ (by omega) _ a b
  clear e1 e2; refine W.seq ?_; refine W.regionL (by decide +kernel) rfl ?_; apply r_op; exact rfl; exact rfl; apply a_assign; (conv => (lhs; whnf)); apply r_op; exact rfl; exact rfl; apply a_assign; (conv => (lhs; whnf)); apply r_op; exact rfl; exact rfl; apply a_assign; (conv => (lhs; whnf)); apply r_op; exact rfl; exact rfl; apply a_assign; (conv => (lhs; whnf)); apply r_op; exact rfl; exact rfl
  apply a_assign; (conv => (lhs; whnf)); (with_reducible refine runs_done ?_); refine W.seq ?_; refine W.seq ?_; refine W.regionL (by decide +kernel) rfl ?_; apply r_op; exact rfl; exact rfl; apply a_move; (conv => (lhs; whnf)); apply r_op; exact rfl; exact rfl; apply g_call; exact a_len_str rfl; apply r_op; exact rfl; exact rfl; apply g_binOp; exact a_binI rfl rfl rfl; apply r_op; exact rfl
  exact rfl; apply a_move; (conv => (lhs; whnf)); apply r_op; exact rfl; exact want_t rfl rfl rfl (by assumption); apply a_move; (conv => (lhs; whnf)); apply r_op; exact rfl; exact want_t rfl rfl rfl (by assumption); apply g_index; exact a_indexS rfl rfl (by omega) (by assumption); apply r_op; exact rfl; exact want_t rfl rfl rfl (by assumption); apply g_binOp; exact a_binI rfl rfl rfl; apply r_op
  exact rfl; exact rfl; apply g_pick; apply a_pickF rfl (by assumption); (conv => (lhs; whnf)); apply r_op; exact rfl; exact rfl; apply a_move; (conv => (lhs; whnf)); refine q_split rfl rfl rfl (fun hg => ?_) (fun hg => ?_); apply q_skip; exact rfl; exact want_f rfl rfl rfl (by assumption); apply q_skip; exact rfl; exact want_f rfl rfl rfl (by assumption); apply q_skip; exact rfl
  exact want_f rfl rfl rfl (by assumption); apply r_op; exact rfl; exact rfl; apply g_pick; apply a_pickT rfl (by assumption); (conv => (lhs; whnf)); apply r_op; exact rfl; exact rfl; apply a_move; (conv => (lhs; whnf)); apply q_skip; exact rfl; exact want_f rfl rfl rfl (by exact rfl); apply q_skip; exact rfl; exact want_f rfl rfl rfl (by exact rfl); apply q_skip; exact rfl
  exact want_f rfl rfl rfl (by exact rfl); apply r_op; exact rfl; exact rfl; apply g_pick; apply a_pickT rfl (by exact rfl); (conv => (lhs; whnf)); apply r_op; exact rfl; exact rfl; apply a_move; (conv => (lhs; whnf)); apply q_skip; exact rfl; exact want_f rfl rfl rfl (by exact rfl); apply q_skip; exact rfl; exact want_f rfl rfl rfl (by exact rfl); apply q_skip; exact rfl
  exact want_f rfl rfl rfl (by exact rfl); apply r_op; exact rfl; exact rfl; apply g_pick; apply a_pickT rfl (by exact rfl); (conv => (lhs; whnf)); (with_reducible refine runs_done ?_); refine W.condT rfl (by exact rfl) ?_; refine W.seq ?_; refine W.regionL (by decide +kernel) rfl ?_; apply r_op; exact rfl; exact rfl; apply a_assign; (conv => (lhs; whnf)); apply r_op; exact rfl; exact rfl
  apply a_assign; (conv => (lhs; whnf)); apply r_op; exact rfl; exact rfl; apply a_assign; (conv => (lhs; whnf)); apply r_op; exact rfl; exact rfl; apply a_assign; (conv => (lhs; whnf)); apply r_op; exact rfl; exact rfl; apply a_assign; (conv => (lhs; whnf)); (with_reducible refine runs_done ?_); refine W.ret ?_; show Q Exit.ret _ _
  refine post_q hQ (by apply res_tmp; exact rfl; apply res_tmp; exact rfl; apply res_tmp; exact rfl; apply res_tmp; exact rfl; apply res_tmp; exact rfl; exact res_nil) (.inl rfl) (by exact .refl _) ?_; (conv => (lhs; whnf)); rotate_left; apply r_op; exact rfl; exact want_t rfl rfl rfl (by assumption); apply a_move; (conv => (lhs; whnf)); apply r_op; exact rfl
  exact want_t rfl rfl rfl (by assumption); apply g_index; exact a_indexS rfl rfl (by omega) (by assumption); apply r_op; exact rfl; exact want_t rfl rfl rfl (by assumption); apply g_binOp; exact a_binI rfl rfl rfl; apply r_op; exact rfl; exact rfl; apply g_pick; apply a_pickF rfl (by assumption); (conv => (lhs; whnf)); apply r_op; exact rfl; exact rfl; apply a_move; (conv => (lhs; whnf))
  refine q_split rfl rfl rfl (fun hg => ?_) (fun hg => ?_); apply q_skip; exact rfl; exact want_f rfl rfl rfl (by assumption); apply q_skip; exact rfl; exact want_f rfl rfl rfl (by assumption); apply q_skip; exact rfl; exact want_f rfl rfl rfl (by assumption); apply r_op; exact rfl; exact rfl; apply g_pick; apply a_pickT rfl (by assumption); (conv => (lhs; whnf)); apply r_op; exact rfl; exact rfl
  apply a_move; (conv => (lhs; whnf)); apply q_skip; exact rfl; exact want_f rfl rfl rfl (by exact rfl); apply q_skip; exact rfl; exact want_f rfl rfl rfl (by exact rfl); apply q_skip; exact rfl; exact want_f rfl rfl rfl (by exact rfl); apply r_op; exact rfl; exact rfl; apply g_pick; apply a_pickT rfl (by exact rfl); (conv => (lhs; whnf)); (with_reducible refine runs_done ?_)
  refine W.condT rfl (by exact rfl) ?_; refine W.seq ?_; refine W.regionL (by decide +kernel) rfl ?_; apply r_op; exact rfl; exact rfl; apply a_assign; (conv => (lhs; whnf)); apply r_op; exact rfl; exact rfl; apply a_assign; (conv => (lhs; whnf)); apply r_op; exact rfl; exact rfl; apply a_assign; (conv => (lhs; whnf)); apply r_op; exact rfl; exact rfl; apply a_assign; (conv => (lhs; whnf))
  apply r_op; exact rfl; exact rfl; apply a_assign; (conv => (lhs; whnf)); (with_reducible refine runs_done ?_); refine W.ret ?_; show Q Exit.ret _ _; refine post_q hQ (by apply res_tmp; exact rfl; apply res_tmp; exact rfl; apply res_tmp; exact rfl; apply res_tmp; exact rfl; apply res_tmp; exact rfl; exact res_nil) (.inl rfl) (by exact .refl _) ?_; (conv => (lhs; whnf)); rotate_left; apply r_op
  exact rfl; exact want_t rfl rfl rfl (by assumption); apply a_move; (conv => (lhs; whnf)); apply r_op; exact rfl; exact want_t rfl rfl rfl (by assumption); apply g_index; exact a_indexS rfl rfl (by omega) (by assumption); apply r_op; exact rfl; exact want_t rfl rfl rfl (by assumption); apply g_binOp; exact a_binI rfl rfl rfl; apply r_op; exact rfl; exact rfl; apply g_pick
  apply a_pickF rfl (by assumption); (conv => (lhs; whnf)); apply r_op; exact rfl; exact rfl; apply a_move; (conv => (lhs; whnf)); refine q_split rfl rfl rfl (fun hg => ?_) (fun hg => ?_); apply q_skip; exact rfl; exact want_f rfl rfl rfl (by assumption); apply q_skip; exact rfl; exact want_f rfl rfl rfl (by assumption); apply q_skip; exact rfl; exact want_f rfl rfl rfl (by assumption); apply r_op
  exact rfl; exact rfl; apply g_pick; apply a_pickT rfl (by assumption); (conv => (lhs; whnf)); (with_reducible refine runs_done ?_); refine W.condT rfl (by exact rfl) ?_; refine W.seq ?_; refine W.regionL (by decide +kernel) rfl ?_; apply r_op; exact rfl; exact rfl; apply a_assign; (conv => (lhs; whnf)); apply r_op; exact rfl; exact rfl; apply a_assign; (conv => (lhs; whnf)); apply r_op; exact rfl
  exact rfl; apply a_assign; (conv => (lhs; whnf)); apply r_op; exact rfl; exact rfl; apply a_assign; (conv => (lhs; whnf)); apply r_op; exact rfl; exact rfl; apply a_assign; (conv => (lhs; whnf)); (with_reducible refine runs_done ?_); refine W.ret ?_; show Q Exit.ret _ _
  refine post_q hQ (by apply res_tmp; exact rfl; apply res_tmp; exact rfl; apply res_tmp; exact rfl; apply res_tmp; exact rfl; apply res_tmp; exact rfl; exact res_nil) (.inl rfl) (by exact .refl _) ?_; (conv => (lhs; whnf)); rotate_left; apply r_op; exact rfl; exact want_t rfl rfl rfl (by assumption); apply a_move; (conv => (lhs; whnf)); apply r_op; exact rfl
  exact want_t rfl rfl rfl (by assumption); apply g_index; exact a_indexS rfl rfl (by omega) (by assumption); apply r_op; exact rfl; exact want_t rfl rfl rfl (by assumption); apply g_binOp; exact a_binI rfl rfl rfl; apply r_op; exact rfl; exact rfl; apply g_pick; apply a_pickF rfl (by assumption); (conv => (lhs; whnf)); (with_reducible refine runs_done ?_)
  refine W.cond rfl (fun hc => ?_) (fun hc => ?_); refine W.seq ?_; refine W.regionL (by decide +kernel) rfl ?_; apply r_op; exact rfl; exact rfl; apply a_assign; (conv => (lhs; whnf)); apply r_op; exact rfl; exact rfl; apply a_assign; (conv => (lhs; whnf)); apply r_op; exact rfl; exact rfl; apply a_assign; (conv => (lhs; whnf)); apply r_op; exact rfl; exact rfl; apply a_assign
  (conv => (lhs; whnf)); apply r_op; exact rfl; exact rfl; apply a_assign; (conv => (lhs; whnf)); (with_reducible refine runs_done ?_); refine W.ret ?_; show Q Exit.ret _ _; refine post_q hQ (by apply res_tmp; exact rfl; apply res_tmp; exact rfl; apply res_tmp; exact rfl; apply res_tmp; exact rfl; apply res_tmp; exact rfl; exact res_nil) (.inl rfl) (by exact .refl _) ?_; (conv => (lhs; whnf))
  rotate_left; refine W.skip ?_; show W _ _ _ _ _ _ _; refine W.seq ?_; refine W.regionL (by decide +kernel) rfl ?_; apply r_op; exact rfl; exact rfl; apply a_move; (conv => (lhs; whnf)); apply r_op; exact rfl; exact rfl; apply g_index; exact a_indexS rfl rfl (by omega) (by assumption); apply r_op; exact rfl; exact rfl; apply g_binOp; exact a_u8sub rfl rfl; apply r_op; exact rfl; exact rfl
  apply g_convert; exact a_convI rfl; apply r_op; exact rfl; exact rfl; apply a_assign; (conv => (lhs; whnf)); (with_reducible refine runs_done ?_); refine W.seq ?_; refine W.regionL (by decide +kernel) rfl ?_; apply r_op; exact rfl; exact rfl; apply a_move; (conv => (lhs; whnf)); apply r_op; exact rfl; exact rfl; apply g_slice; exact a_sliceS rfl rfl rfl (by omega); apply r_callP; exact rfl
  exact rfl; exact rfl; exact rfl; exact rfl; infer_instance; exact hA1; apply r_op; exact rfl; exact rfl; apply a_move; (conv => (lhs; whnf)); apply r_op; exact rfl; exact rfl; apply g_extract; exact a_extract rfl rfl; apply r_op; exact rfl; exact rfl; apply g_extract; exact a_extract rfl rfl; apply r_op; exact rfl; exact rfl; apply a_assign; (conv => (lhs; whnf)); apply r_op; exact rfl; exact rfl
  apply a_assign; (conv => (lhs; whnf)); (with_reducible refine runs_done ?_); refine W.seq ?_; refine W.regionL (by decide +kernel) rfl ?_; apply r_op; exact rfl; exact rfl; apply a_move; (conv => (lhs; whnf)); apply r_op; exact rfl; exact rfl; apply g_slice; exact a_sliceS rfl rfl rfl (by omega); apply r_callP; exact rfl; exact rfl; exact rfl; exact rfl; exact rfl; infer_instance; exact hA2
  apply r_op; exact rfl; exact rfl; apply a_move; (conv => (lhs; whnf)); apply r_op; exact rfl; exact rfl; apply g_extract; exact a_extract rfl rfl; apply r_op; exact rfl; exact rfl; apply g_extract; exact a_extract rfl rfl; apply r_op; exact rfl; exact rfl; apply a_assign; (conv => (lhs; whnf)); apply r_op; exact rfl; exact rfl; apply a_assign; (conv => (lhs; whnf))
  (with_reducible refine runs_done ?_); refine W.seq ?_; refine W.seq ?_; refine W.regionL (by decide +kernel) rfl ?_; apply r_op; exact rfl; exact rfl; apply a_move; (conv => (lhs; whnf)); apply r_op; exact rfl; exact rfl; apply g_binOp; exact a_nilEn rfl rfl; apply r_op; exact rfl; exact rfl; apply a_move; (conv => (lhs; whnf)); refine q_split rfl rfl rfl (fun hg => ?_) (fun hg => ?_); apply q_skip
  exact rfl; exact want_f rfl rfl rfl (by assumption); apply q_skip; exact rfl; exact want_f rfl rfl rfl (by assumption); apply r_op; exact rfl; exact rfl; apply g_pick; apply a_pickT rfl (by assumption); (conv => (lhs; whnf)); apply r_op; exact rfl; exact rfl; apply a_move; (conv => (lhs; whnf)); apply q_skip; exact rfl; exact want_f rfl rfl rfl (by exact rfl); apply q_skip; exact rfl
  exact want_f rfl rfl rfl (by exact rfl); apply q_skip; exact rfl; exact want_f rfl rfl rfl (by exact rfl); apply q_skip; exact rfl; exact want_f rfl rfl rfl (by exact rfl); apply q_skip; exact rfl; exact want_f rfl rfl rfl (by exact rfl); apply q_skip; exact rfl; exact want_f rfl rfl rfl (by exact rfl); apply q_skip; exact rfl; exact want_f rfl rfl rfl (by exact rfl); apply q_skip; exact rfl
  exact want_f rfl rfl rfl (by exact rfl); apply r_op; exact rfl; exact rfl; apply g_pick; apply a_pickT rfl (by exact rfl); (conv => (lhs; whnf)); (with_reducible refine runs_done ?_); refine W.condT rfl (by exact rfl) ?_; refine W.seq ?_; refine W.regionL (by decide +kernel) rfl ?_; apply r_op; exact rfl; exact rfl; apply a_assign; (conv => (lhs; whnf)); apply r_op; exact rfl; exact rfl
  apply a_assign; (conv => (lhs; whnf)); apply r_op; exact rfl; exact rfl; apply a_assign; (conv => (lhs; whnf)); apply r_op; exact rfl; exact rfl; apply a_assign; (conv => (lhs; whnf)); apply r_op; exact rfl; exact rfl; apply a_assign; (conv => (lhs; whnf)); (with_reducible refine runs_done ?_); refine W.ret ?_; show Q Exit.ret _ _
  refine post_q hQ (by apply res_tmp; exact rfl; apply res_tmp; exact rfl; apply res_tmp; exact rfl; apply res_tmp; exact rfl; apply res_tmp; exact rfl; exact res_nil) (.inl rfl) (by exact .refl _) ?_; (conv => (lhs; whnf)); rotate_left; apply r_op; exact rfl; exact want_t rfl rfl rfl (by assumption); apply a_move; (conv => (lhs; whnf)); apply r_op; exact rfl
  exact want_t rfl rfl rfl (by assumption); apply g_binOp; exact a_nilEn rfl rfl; apply r_op; exact rfl; exact rfl; apply g_pick; apply a_pickF rfl (by assumption); (conv => (lhs; whnf)); apply r_op; exact rfl; exact rfl; apply a_move; (conv => (lhs; whnf)); refine q_split rfl rfl rfl (fun hg => ?_) (fun hg => ?_); apply q_skip; exact rfl; exact want_f rfl rfl rfl (by assumption); apply q_skip
  exact rfl; exact want_f rfl rfl rfl (by assumption); apply q_skip; exact rfl; exact want_f rfl rfl rfl (by assumption); apply q_skip; exact rfl; exact want_f rfl rfl rfl (by assumption); apply q_skip; exact rfl; exact want_f rfl rfl rfl (by assumption); apply q_skip; exact rfl; exact want_f rfl rfl rfl (by assumption); apply q_skip; exact rfl; exact want_f rfl rfl rfl (by assumption)
  apply q_skip; exact rfl; exact want_f rfl rfl rfl (by assumption); apply r_op; exact rfl; exact rfl; apply g_pick; apply a_pickT rfl (by assumption); (conv => (lhs; whnf)); (with_reducible refine runs_done ?_); refine W.condT rfl (by exact rfl) ?_; refine W.seq ?_; refine W.regionL (by decide +kernel) rfl ?_; apply r_op; exact rfl; exact rfl; apply a_assign; (conv => (lhs; whnf)); apply r_op
  exact rfl; exact rfl; apply a_assign; (conv => (lhs; whnf)); apply r_op; exact rfl; exact rfl; apply a_assign; (conv => (lhs; whnf)); apply r_op; exact rfl; exact rfl; apply a_assign; (conv => (lhs; whnf)); apply r_op; exact rfl; exact rfl; apply a_assign; (conv => (lhs; whnf)); (with_reducible refine runs_done ?_); refine W.ret ?_; show Q Exit.ret _ _
  refine post_q hQ (by apply res_tmp; exact rfl; apply res_tmp; exact rfl; apply res_tmp; exact rfl; apply res_tmp; exact rfl; apply res_tmp; exact rfl; exact res_nil) (.inl rfl) (by exact .refl _) ?_; (conv => (lhs; whnf)); rotate_left; apply r_op; exact rfl; exact want_t rfl rfl rfl (by assumption); apply a_move; (conv => (lhs; whnf)); apply r_op; exact rfl
  exact want_t rfl rfl rfl (by assumption); apply a_move; (conv => (lhs; whnf)); apply r_op; exact rfl; exact want_t rfl rfl rfl (by assumption); apply g_index; exact a_indexS rfl rfl (by omega) (by assumption); apply r_op; exact rfl; exact want_t rfl rfl rfl (by assumption); apply a_move; (conv => (lhs; whnf)); apply r_op; exact rfl; exact want_t rfl rfl rfl (by assumption); apply a_move
  (conv => (lhs; whnf)); apply r_callP; exact rfl; exact rfl; exact want_t rfl rfl rfl (by assumption); exact rfl; exact rfl; infer_instance; exact hK ⟨Int.ofNat_le.1 (Int.not_lt.1 (of_decide_eq_false (by assumption))), Int.ofNat_le.1 (Int.not_lt.1 (of_decide_eq_false (by assumption)))⟩; apply r_op; exact rfl; exact want_t rfl rfl rfl (by assumption); apply a_move; (conv => (lhs; whnf)); apply r_op
  exact rfl; exact want_t rfl rfl rfl (by assumption); apply g_binOp; exact a_binS rfl rfl rfl rfl; apply r_op; exact rfl; exact rfl; apply g_pick; apply a_pickF rfl (by assumption); (conv => (lhs; whnf)); (with_reducible refine runs_done ?_); refine W.cond rfl (fun hc => ?_) (fun hc => ?_); refine W.seq ?_; refine W.regionL (by decide +kernel) rfl ?_; apply r_op; exact rfl; exact rfl; apply a_assign
  (conv => (lhs; whnf)); apply r_op; exact rfl; exact rfl; apply a_assign; (conv => (lhs; whnf)); apply r_op; exact rfl; exact rfl; apply a_assign; (conv => (lhs; whnf)); apply r_op; exact rfl; exact rfl; apply a_assign; (conv => (lhs; whnf)); apply r_op; exact rfl; exact rfl; apply a_assign; (conv => (lhs; whnf)); (with_reducible refine runs_done ?_); refine W.ret ?_; show Q Exit.ret _ _
  refine post_q hQ (by apply res_tmp; exact rfl; apply res_tmp; exact rfl; apply res_tmp; exact rfl; apply res_tmp; exact rfl; apply res_tmp; exact rfl; exact res_nil) (.inl rfl) (by exact .refl _) ?_; (conv => (lhs; whnf)); rotate_left; refine W.skip ?_; show W _ _ _ _ _ _ _; refine W.seq ?_; refine W.regionDK 1 [] Ty.mixed (by decide +kernel) (by decide +kernel) rfl ?_; apply r_op; exact rfl
  exact rfl; apply a_move; (conv => (lhs; whnf)); apply r_op; exact rfl; exact rfl; apply a_move; (conv => (lhs; whnf)); apply r_op; exact rfl; exact rfl; apply g_index; exact a_indexS rfl rfl (by omega) (by assumption); apply r_op; exact rfl; exact rfl; apply a_move; (conv => (lhs; whnf)); apply r_op; exact rfl; exact rfl; apply a_move; (conv => (lhs; whnf)); apply r_op; exact rfl; exact rfl
  apply a_assign; (conv => (lhs; whnf)); apply r_op; exact rfl; exact rfl; apply a_assign; (conv => (lhs; whnf)); apply r_op; exact rfl; exact rfl; apply a_assign; (conv => (lhs; whnf)); apply r_op; exact rfl; exact rfl; apply a_assign; (conv => (lhs; whnf)); apply r_op; exact rfl; exact rfl; apply a_assign; (conv => (lhs; whnf)); (with_reducible refine runs_done ?_); refine W.ret ?_
  show Q Exit.ret _ _; refine post_q hQ (by apply res_tmp; exact rfl; apply res_tmp; exact rfl; apply res_tmp; exact rfl; apply res_tmp; exact rfl; apply res_tmp; exact rfl; exact res_nil) (.inl rfl) (by exact .refl _) ?_; (conv => (lhs; whnf)); rotate_left
  · have hn : parts k = .none := by rw [hp, if_neg (fun h => by have := of_decide_eq_true hg; omega)]
    rw [hn]; rfl
  · have hn : parts k = .none := by rw [hp, if_neg (fun h => by have := of_decide_eq_true hg; omega)]
    rw [hn]; rfl
  · have hn : parts k = .none := by rw [hp, if_neg (fun h => by have := of_decide_eq_true hg; omega)]
    rw [hn]; rfl
  · have hn : parts k = .none := by rw [hp, if_neg (fun h => by have := of_decide_eq_true hc; omega)]
    rw [hn]; rfl
  · have hn : parts k = .none := by
      rw [hp]; split <;> first | rfl | (rw [if_neg]; intro h; rw [h.1] at hg; cases hg)
    rw [hn]; rfl
  · have hn : parts k = .none := by
      rw [hp]; split <;> first | rfl | (rw [if_neg]; intro h; rw [h.2.1] at hg; cases hg)
    rw [hn]; rfl
  · have hn : parts k = .none := by
      rw [hp]; split <;> first | rfl | (rw [if_neg]; intro h; simp [h.2.2] at hc)
    rw [hn]; rfl
  · have h48 : 48 ≤ c0.toNat ∧ c0.toNat ≤ 57 := ⟨Int.ofNat_le.1 (Int.not_lt.1 (of_decide_eq_false (by assumption))), Int.ofNat_le.1 (Int.not_lt.1 (of_decide_eq_false (by assumption)))⟩
    have h97 : 97 ≤ t.toNat ∧ t.toNat ≤ 122 := ⟨Int.ofNat_le.1 (Int.not_lt.1 (of_decide_eq_false (by assumption))), Int.ofNat_le.1 (Int.not_lt.1 (of_decide_eq_false (by assumption)))⟩
    have hba : ba = true := by simpa using ‹(!ba) = false›
    have hbb : bb = true := by simpa using ‹(!bb) = false›
    have hn : parts k = ⟨c0.toNat - 48, t, a, b, true⟩ := by
      rw [hp, if_pos ⟨h0, h48, h97⟩, if_pos ⟨hba, hbb, by simpa using hc⟩]
    rw [hn, ePts, ← sub48 h48]; rfl
end Go.Proofs.YtgliemhhnkhboaaGreatDoor
end
section
set_option linter.unusedVariables false
set_option linter.unusedSimpArgs false
namespace Go.Proofs.YtgliemhhnkhboaaGreatDoor
open Go.Al
end Go.Proofs.YtgliemhhnkhboaaGreatDoor
end
section
set_option linter.unusedVariables false
set_option linter.unusedSimpArgs false
set_option maxRecDepth 100000
set_option maxHeartbeats 1000000
namespace Go.Proofs.YtgliemhhnkhboaaGreatDoor
open Go.Al Go.RowKit
theorem between_any (w0 : Base) (n a b : Int) : CallP Tryz.prog w0 35 [.int .i64 n, .int .i64 a, .int .i64 b] (.bool (decide (a ≤ n) && decide (n ≤ b))) := by
  refine CallP.h Ty.tok Ty.mixed Tryz.func35 rfl Tryz.ntmps35 rfl (by simp) (by decide +kernel) fun σ => ?_
  (conv => whnf); refine Hid.seq ?_; refine Hid.reg ?_; (conv => whnf); refine Hid.seq ?_; refine Hid.reg ?_; (conv => whnf); refine SCond.mk (fun hc => ?_) (fun hc => ?_); (conv => whnf); rotate_left; (conv => whnf)
  rotate_right
  refine SCond.y (by assumption) ?_; (conv => whnf); refine SCond.y (by assumption) ?_; (conv => whnf); refine SPick.y (by assumption) ?_; (conv => whnf); refine Hid.ret ?_; (conv => whnf); rotate_left; refine SCond.n (by assumption) ?_; (conv => whnf); refine SCond.n (by assumption) ?_; (conv => whnf); refine SPick.n (by assumption) ?_; (conv => whnf); refine Hid.ret ?_; (conv => whnf)
  rotate_left
  · exact .p (.refl _) (by simp [hc])
  · exact .p (.refl _) (by simp [hc])
theorem rightA_any (w0 : Base) : CallP Tryz.prog w0 23 [.agg [.int .i64 0, .int .i64 1, .int .i64 0, .nils]] (.bool true) := by
  refine CallP.h Ty.tok Ty.mixed Tryz.func23 rfl Tryz.ntmps23 rfl (by simp) (by decide +kernel) fun σ => ?_
  (conv => whnf); refine Hid.seq ?_; refine Hid.reg ?_; (conv => whnf); refine SBox.f ?_; (conv => whnf); refine Hid.seq ?_; refine Hid.seq ?_; refine Hid.reg ?_; (conv => whnf); refine SCall.p (by exact between_any w0 _ _ _) ?_; (conv => whnf); refine SCond.n (by exact rfl) ?_; (conv => whnf); refine SCond.n (by exact rfl) ?_; (conv => whnf); refine SCond.n (by exact rfl) ?_; (conv => whnf)
  refine SCall.p (by exact between_any w0 _ _ _) ?_; (conv => whnf); refine SCond.n (by exact rfl) ?_; (conv => whnf); refine SPick.n (by exact rfl) ?_; (conv => whnf); refine SCond.n (by exact rfl) ?_; (conv => whnf); refine SCond.n (by exact rfl) ?_; (conv => whnf); refine SCond.n (by exact rfl) ?_; (conv => whnf); refine SCall.p (by exact between_any w0 _ _ _) ?_; (conv => whnf)
  refine SCond.n (by exact rfl) ?_; (conv => whnf); refine SPick.n (by exact rfl) ?_; (conv => whnf); refine SCond.n (by exact rfl) ?_; (conv => whnf); refine SCond.n (by exact rfl) ?_; (conv => whnf); refine SCond.n (by exact rfl) ?_; (conv => whnf); refine SCond.n (by exact rfl) ?_; (conv => whnf); refine SPick.n (by exact rfl) ?_; (conv => whnf); refine Hid.cond rfl ?_
  refine SIf.n Ty.mixed (by exact rfl) ?_; refine Xc_h ?_; (conv => whnf); refine Hid.skip ?_; (conv => whnf); refine Hid.seq ?_; refine Hid.reg ?_; (conv => whnf); refine Hid.seq ?_; refine Hid.seq ?_; refine Hid.reg ?_; (conv => whnf); refine Hid.block ?_; refine Hid.loop ?_
  refine SLoop.by Ty.mixed (fun _ => 0) (fun _ : Unit => [(30, .int .i64 0), (31, .int .i64 0)]) (fun _ => []) (fun _ s => St.Le σ s) () ⟨by repeat (first | exact trivial | refine ⟨by first | trivial | exact Weak.refl _ | exact Weak.tok _ _ _ | exact Weak.of_eq (congrArg (AV.int _) (by omega)) | exact Weak.of_eq (congrArg AV.bool (by fail)) | exact Weak.nils _ _ (.inr rfl), ?_⟩), .none _, by repeat (first | assumption | exact .refl _ | refine le_new2 ?_ (by assumption) | refine le_new ?_ (by assumption) | refine le_setBox ?_ (by first | assumption | exact none_in (by assumption) | exact none_in (none_in (by assumption)) | exact none_in (none_in (none_in (by assumption))) | fail) | exact Moves.le (by assumption) | refine .trans ?_ (Moves.le (by assumption)))⟩ ?_
  rintro _ s hs; refine Xc_h ?_; (conv => whnf); refine Hid.seq ?_; refine Hid.reg ?_; (conv => whnf); refine Hid.seq ?_; refine Hid.cond rfl ?_; refine SIf.n Ty.mixed (by exact rfl) ?_; refine Xc_h ?_; (conv => whnf); refine Hid.exit ?_; (conv => whnf); refine Hid.seq ?_; refine Hid.reg ?_; (conv => whnf); refine Hid.ret ?_; (conv => whnf); exact .p hs rfl
theorem rightB_any (w0 : Base) : CallP Tryz.prog w0 23 [.agg [.int .i64 0, .int .i64 0, .int .i64 0, .nils]] (.bool false) := by
  refine CallP.h Ty.tok Ty.mixed Tryz.func23 rfl Tryz.ntmps23 rfl (by simp) (by decide +kernel) fun σ => ?_
  (conv => whnf); refine Hid.seq ?_; refine Hid.reg ?_; (conv => whnf); refine SBox.f ?_; (conv => whnf); refine Hid.seq ?_; refine Hid.seq ?_; refine Hid.reg ?_; (conv => whnf); refine SCall.p (by exact between_any w0 _ _ _) ?_; (conv => whnf); refine SCond.n (by exact rfl) ?_; (conv => whnf); refine SCond.n (by exact rfl) ?_; (conv => whnf); refine SCond.n (by exact rfl) ?_; (conv => whnf)
  refine SCall.p (by exact between_any w0 _ _ _) ?_; (conv => whnf); refine SCond.n (by exact rfl) ?_; (conv => whnf); refine SPick.n (by exact rfl) ?_; (conv => whnf); refine SCond.y (by exact rfl) ?_; (conv => whnf); refine SCond.y (by exact rfl) ?_; (conv => whnf); refine SCond.y (by exact rfl) ?_; (conv => whnf); refine SCond.y (by exact rfl) ?_; (conv => whnf); refine SPick.y (by exact rfl) ?_
  (conv => whnf); refine SCond.y (by exact rfl) ?_; (conv => whnf); refine SCond.y (by exact rfl) ?_; (conv => whnf); refine SCond.y (by exact rfl) ?_; (conv => whnf); refine SCond.y (by exact rfl) ?_; (conv => whnf); refine SPick.y (by exact rfl) ?_; (conv => whnf); refine Hid.cond rfl ?_; refine SIf.y Ty.mixed (by exact rfl) ?_; refine Xc_h ?_; (conv => whnf); refine Hid.seq ?_; refine Hid.reg ?_
  (conv => whnf); refine Hid.ret ?_; (conv => whnf); exact .p (.refl _) rfl
theorem rkey_known : rkey 1 115 2 0 = [49, 115, 48, 48, 48, 48, 48, 48, 48, 48, 48, 50, 48, 48, 48, 48, 48, 48, 48, 48, 48, 48] := by decide +kernel
theorem known10_any (w0 : Base) (hL : Laid w0) : CallP Tryz.prog w0 8 [] (.bool true) := by
  refine CallP.h Ty.tok Ty.mixed Tryz.func8 rfl Tryz.ntmps8 rfl (by simp) (by decide +kernel) fun σ => ?_
  have h1 := partsS_any w0 hL (rkey 1 115 2 0) (by rw [rkey_length]; decide)
  rw [parts_rkey (by decide) (by decide), rkey_known] at h1
  have h2 := keyS_any w0 hL 1 (by decide) 115 2 0
  rw [rkey_known] at h2
  (conv => whnf); refine Hid.seq ?_; refine Hid.reg ?_; (conv => whnf); refine Hid.seq ?_; refine Hid.reg ?_; (conv => whnf); refine SCall.p (by exact h1) ?_; (conv => whnf); refine Hid.seq ?_; refine Hid.reg ?_; (conv => whnf); refine SCall.p (by exact h2) ?_; (conv => whnf); refine SCond.y (by exact rfl) ?_; (conv => whnf); refine SPick.y (by exact rfl) ?_; (conv => whnf)
  refine SCond.y (by exact rfl) ?_; (conv => whnf); refine SCond.y (by exact rfl) ?_; (conv => whnf); refine SPick.y (by exact rfl) ?_; (conv => whnf); refine SCond.y (by exact rfl) ?_; (conv => whnf); refine SCond.y (by exact rfl) ?_; (conv => whnf); refine SPick.y (by exact rfl) ?_; (conv => whnf); refine SCond.y (by exact rfl) ?_; (conv => whnf); refine SCond.y (by exact rfl) ?_; (conv => whnf)
  refine SPick.y (by exact rfl) ?_; (conv => whnf); refine SCond.y (by exact rfl) ?_; (conv => whnf); refine SCond.y (by exact rfl) ?_; (conv => whnf); refine SPick.y (by exact rfl) ?_; (conv => whnf); refine SCond.y (by exact rfl) ?_; (conv => whnf); refine SCond.y (by exact rfl) ?_; (conv => whnf); refine SCall.p (by exact rightA_any w0) ?_; (conv => whnf); refine SPick.y (by exact rfl) ?_
  (conv => whnf); refine SCond.y (by exact rfl) ?_; (conv => whnf); refine SCond.y (by exact rfl) ?_; (conv => whnf); refine SCall.p (by exact rightB_any w0) ?_; (conv => whnf); refine SCond.y (by exact rfl) ?_; (conv => whnf); refine SPick.y (by exact rfl) ?_; (conv => whnf); refine Hid.ret ?_; (conv => whnf); exact .p (.refl _) rfl
end Go.Proofs.YtgliemhhnkhboaaGreatDoor
end
