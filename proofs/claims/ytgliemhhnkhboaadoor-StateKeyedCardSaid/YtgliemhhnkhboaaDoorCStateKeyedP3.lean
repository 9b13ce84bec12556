/- The law StateKeyed returns true for every input, and its arguments read as before: the tied card. No conditions. This is part 3 of 4 of its proof; the parts are read in order. No conditions. -/
import Derived.Test.YtgliemhhnkhboaaDoorCStateKeyedP2
import Derived.Shelf.LaysM
import Derived.Shelf.Strconv.Itoa3
import Derived.Shelf.LaysC
import Derived.Shelf.Strconv.AtoiAll
import Derived.Shelf.Strings.Repeat
import Derived.Test.YtgliemhhnkhboaaDoorProg
import Derived.Lib.ItoaNum
import Derived.Lib.Atoi
import Derived.Lib.Repeat
import Derived.Lib.AppendIntMem
import Derived.Lib.AtoiErrMem
import Derived.Lib.AtoiTie
section
namespace Go.Proofs
open Go.Shelf
open Go.RowKit Go.Sort Go.Lib in
open Go.RowKit Go.Sort Go.Lib in
open Go.RowKit Go.Sort Go.Lib in
open Go.RowKit Go.Sort Go.Lib in
def Tryd.laysM171_ren : Go.Shelf.Ren := ⟨fun | 171 => 27 | 243 => 41 | 246 => 57 | 283 => 70 | 284 => 71 | 285 => 72 | 286 => 73 | 129 => 83 | 317 => 82 | 318 => 84 | 319 => 85 | 320 => 86 | 337 => 94 | 338 => 95 | n => n, fun | 3 => 3 | 9 => 9 | 2 => 2 | 4 => 4 | 171 => 111 | 0 => 0 | 53 => 89 | 37 => 28 | 5 => 5 | 173 => 114 | 212 => 124 | 51 => 22 | 20 => 20 | 213 => 125 | 46 => 73 | 232 => 136 | 233 => 137 | n => n, fun | 17 => 2 | 18 => 6 | 19 => 7 | n => n⟩
theorem Tryd.laysM171 : Go.Proofs.LaysM.n171 Tryd.prog Tryd.laysM171_ren := {
  mixed := by kernel_rfl
  f129 := Tryd.func83.trans (congrArg some (by kernel_rfl))
  f171 := Tryd.func27.trans (congrArg some (by kernel_rfl))
  f243 := Tryd.func41.trans (congrArg some (by kernel_rfl))
  f246 := Tryd.func57.trans (congrArg some (by kernel_rfl))
  f283 := Tryd.func70.trans (congrArg some (by kernel_rfl))
  f284 := Tryd.func71.trans (congrArg some (by kernel_rfl))
  f285 := Tryd.func72.trans (congrArg some (by kernel_rfl))
  f286 := Tryd.func73.trans (congrArg some (by kernel_rfl))
  f317 := Tryd.func82.trans (congrArg some (by kernel_rfl))
  f318 := Tryd.func84.trans (congrArg some (by kernel_rfl))
  f319 := Tryd.func85.trans (congrArg some (by kernel_rfl))
  f320 := Tryd.func86.trans (congrArg some (by kernel_rfl))
  f337 := Tryd.func94.trans (congrArg some (by kernel_rfl))
  f338 := Tryd.func95.trans (congrArg some (by kernel_rfl))
  t0 := Tryd.underlying0
  a0 := Tryd.isAgg0
  z0 := Tryd.sizeOf0
  v0 := Tryd.zeroValue0
  t2 := Tryd.underlying2
  a2 := Tryd.isAgg2
  z2 := Tryd.sizeOf2
  v2 := Tryd.zeroValue2
  t3 := Tryd.underlying3
  a3 := Tryd.isAgg3
  z3 := Tryd.sizeOf3
  v3 := Tryd.zeroValue3
  t4 := Tryd.underlying4
  a4 := Tryd.isAgg4
  z4 := Tryd.sizeOf4
  v4 := Tryd.zeroValue4
  t5 := Tryd.underlying5
  a5 := Tryd.isAgg5
  z5 := Tryd.sizeOf5
  v5 := Tryd.zeroValue5
  t9 := Tryd.underlying9
  a9 := Tryd.isAgg9
  z9 := Tryd.sizeOf9
  v9 := Tryd.zeroValue9
  t20 := Tryd.underlying20
  a20 := Tryd.isAgg20
  z20 := Tryd.sizeOf20
  v20 := Tryd.zeroValue20
  t37 := Tryd.underlying28
  a37 := Tryd.isAgg28
  z37 := Tryd.sizeOf28
  v37 := Tryd.zeroValue28
  t46 := Tryd.underlying73
  a46 := Tryd.isAgg73
  z46 := Tryd.sizeOf73
  v46 := Tryd.zeroValue73
  t51 := Tryd.underlying22
  a51 := Tryd.isAgg22
  z51 := Tryd.sizeOf22
  v51 := Tryd.zeroValue22
  t53 := Tryd.underlying89
  a53 := Tryd.isAgg89
  z53 := Tryd.sizeOf89
  v53 := Tryd.zeroValue89
  t171 := Tryd.underlying111
  a171 := Tryd.isAgg111
  z171 := Tryd.sizeOf111
  v171 := Tryd.zeroValue111
  t173 := Tryd.underlying114
  a173 := Tryd.isAgg114
  z173 := Tryd.sizeOf114
  v173 := Tryd.zeroValue114
  t212 := Tryd.underlying124
  a212 := Tryd.isAgg124
  z212 := Tryd.sizeOf124
  v212 := Tryd.zeroValue124
  t213 := Tryd.underlying125
  a213 := Tryd.isAgg125
  z213 := Tryd.sizeOf125
  t232 := Tryd.underlying136
  a232 := Tryd.isAgg136
  z232 := Tryd.sizeOf136
  v232 := Tryd.zeroValue136
  t233 := Tryd.underlying137
  a233 := Tryd.isAgg137
  z233 := Tryd.sizeOf137
  v233 := Tryd.zeroValue137
  g17 := by kernel_rfl
  g18 := by kernel_rfl
  g19 := by kernel_rfl
  i0 := by kernel_rfl
  i2 := by kernel_rfl
  i3 := by kernel_rfl
  i4 := by kernel_rfl
  i5 := by kernel_rfl
  i9 := by kernel_rfl
  i20 := by kernel_rfl
  i37 := by kernel_rfl
  i46 := by kernel_rfl
  i51 := by kernel_rfl
  i53 := by kernel_rfl
  i171 := by kernel_rfl
  i173 := by kernel_rfl
  i212 := by kernel_rfl
  i232 := by kernel_rfl
  i233 := by kernel_rfl
  m17 := by kernel_rfl
  m18 := by kernel_rfl
  m19 := by kernel_rfl }
open Go.RowKit Go.Sort Go.Lib in
theorem Tryd.strconv_Itoa (n : Int) (h0 : -9223372036854775808 ≤ n) (h1 : n ≤ 9223372036854775807) (w : World) (htab : Lib.TabIs Tryd.prog w "internal/strconv.uint64pow10" .u64 Lib.pow10Tab) :
    Calls Tryd.prog 27 #[.int .i64 n] w fun e w' => e = .returned (.string ⟨(Lib.itoa n).toArray⟩) ∧ ∃ k os, w' = grow (w.drewN k) os := Any.strconv_Itoa Tryd.laysM171 n h0 h1 w htab
open Go.RowKit Go.Sort Go.Lib in
def Tryd.laysC172_ren : Go.Shelf.Ren := ⟨fun | 172 => 13 | 244 => 25 | 245 => 26 | 247 => 36 | 279 => 37 | 280 => 38 | 281 => 39 | 282 => 40 | 287 => 54 | 316 => 55 | 171 => 27 | 205 => 56 | 321 => 68 | 322 => 69 | 243 => 41 | 246 => 57 | 283 => 70 | 284 => 71 | 285 => 72 | 286 => 73 | 129 => 83 | 317 => 82 | 318 => 84 | 319 => 85 | 320 => 86 | 337 => 94 | 338 => 95 | n => n, fun | 9 => 9 | 3 => 3 | 75 => 40 | 76 => 41 | 4 => 4 | 5 => 5 | 167 => 67 | 37 => 28 | 0 => 0 | 85 => 68 | 2 => 2 | 168 => 70 | 53 => 89 | 175 => 90 | 46 => 73 | 210 => 94 | 127 => 101 | 145 => 110 | 143 => 108 | 21 => 21 | 171 => 111 | 173 => 114 | 212 => 124 | 51 => 22 | 20 => 20 | 213 => 125 | 232 => 136 | 233 => 137 | 80 => 82 | n => n, fun | 15 => 0 | 16 => 1 | 17 => 2 | 18 => 6 | 19 => 7 | n => n⟩
theorem Tryd.laysC172 : Go.Proofs.LaysC.n172 Tryd.prog Tryd.laysC172_ren := {
  mixed := by kernel_rfl
  f129 := Tryd.func83.trans (congrArg some (by kernel_rfl))
  f171 := Tryd.func27.trans (congrArg some (by kernel_rfl))
  f172 := Tryd.func13.trans (congrArg some (by kernel_rfl))
  f205 := Tryd.func56.trans (congrArg some (by kernel_rfl))
  f243 := Tryd.func41.trans (congrArg some (by kernel_rfl))
  f244 := Tryd.func25.trans (congrArg some (by kernel_rfl))
  f245 := Tryd.func26.trans (congrArg some (by kernel_rfl))
  f246 := Tryd.func57.trans (congrArg some (by kernel_rfl))
  f247 := Tryd.func36.trans (congrArg some (by kernel_rfl))
  f279 := Tryd.func37.trans (congrArg some (by kernel_rfl))
  f280 := Tryd.func38.trans (congrArg some (by kernel_rfl))
  f281 := Tryd.func39.trans (congrArg some (by kernel_rfl))
  f282 := Tryd.func40.trans (congrArg some (by kernel_rfl))
  f283 := Tryd.func70.trans (congrArg some (by kernel_rfl))
  f284 := Tryd.func71.trans (congrArg some (by kernel_rfl))
  f285 := Tryd.func72.trans (congrArg some (by kernel_rfl))
  f286 := Tryd.func73.trans (congrArg some (by kernel_rfl))
  f287 := Tryd.func54.trans (congrArg some (by kernel_rfl))
  f316 := Tryd.func55.trans (congrArg some (by kernel_rfl))
  f317 := Tryd.func82.trans (congrArg some (by kernel_rfl))
  f318 := Tryd.func84.trans (congrArg some (by kernel_rfl))
  f319 := Tryd.func85.trans (congrArg some (by kernel_rfl))
  f320 := Tryd.func86.trans (congrArg some (by kernel_rfl))
  f321 := Tryd.func68.trans (congrArg some (by kernel_rfl))
  f322 := Tryd.func69.trans (congrArg some (by kernel_rfl))
  f337 := Tryd.func94.trans (congrArg some (by kernel_rfl))
  f338 := Tryd.func95.trans (congrArg some (by kernel_rfl))
  t0 := Tryd.underlying0
  a0 := Tryd.isAgg0
  z0 := Tryd.sizeOf0
  v0 := Tryd.zeroValue0
  t2 := Tryd.underlying2
  a2 := Tryd.isAgg2
  z2 := Tryd.sizeOf2
  v2 := Tryd.zeroValue2
  t3 := Tryd.underlying3
  a3 := Tryd.isAgg3
  z3 := Tryd.sizeOf3
  v3 := Tryd.zeroValue3
  t4 := Tryd.underlying4
  a4 := Tryd.isAgg4
  z4 := Tryd.sizeOf4
  v4 := Tryd.zeroValue4
  t5 := Tryd.underlying5
  a5 := Tryd.isAgg5
  z5 := Tryd.sizeOf5
  v5 := Tryd.zeroValue5
  t9 := Tryd.underlying9
  a9 := Tryd.isAgg9
  z9 := Tryd.sizeOf9
  v9 := Tryd.zeroValue9
  t20 := Tryd.underlying20
  a20 := Tryd.isAgg20
  z20 := Tryd.sizeOf20
  v20 := Tryd.zeroValue20
  t21 := Tryd.underlying21
  a21 := Tryd.isAgg21
  z21 := Tryd.sizeOf21
  v21 := Tryd.zeroValue21
  t37 := Tryd.underlying28
  a37 := Tryd.isAgg28
  z37 := Tryd.sizeOf28
  v37 := Tryd.zeroValue28
  t46 := Tryd.underlying73
  a46 := Tryd.isAgg73
  z46 := Tryd.sizeOf73
  v46 := Tryd.zeroValue73
  t51 := Tryd.underlying22
  a51 := Tryd.isAgg22
  z51 := Tryd.sizeOf22
  v51 := Tryd.zeroValue22
  t53 := Tryd.underlying89
  a53 := Tryd.isAgg89
  z53 := Tryd.sizeOf89
  v53 := Tryd.zeroValue89
  t75 := Tryd.underlying40
  a75 := Tryd.isAgg40
  z75 := Tryd.sizeOf40
  v75 := Tryd.zeroValue40
  t76 := Tryd.underlying41
  a76 := Tryd.isAgg41
  z76 := Tryd.sizeOf41
  v76 := Tryd.zeroValue41
  t85 := Tryd.underlying68
  a85 := Tryd.isAgg68
  z85 := Tryd.sizeOf68
  v85 := Tryd.zeroValue68
  t127 := Tryd.underlying101
  a127 := Tryd.isAgg101
  z127 := Tryd.sizeOf101
  v127 := Tryd.zeroValue101
  t143 := Tryd.underlying108
  a143 := Tryd.isAgg108
  z143 := Tryd.sizeOf108
  v143 := Tryd.zeroValue108
  t145 := Tryd.underlying110
  a145 := Tryd.isAgg110
  z145 := Tryd.sizeOf110
  v145 := Tryd.zeroValue110
  t167 := Tryd.underlying67
  a167 := Tryd.isAgg67
  z167 := Tryd.sizeOf67
  v167 := Tryd.zeroValue67
  t168 := Tryd.underlying70
  a168 := Tryd.isAgg70
  z168 := Tryd.sizeOf70
  v168 := Tryd.zeroValue70
  t171 := Tryd.underlying111
  a171 := Tryd.isAgg111
  z171 := Tryd.sizeOf111
  v171 := Tryd.zeroValue111
  t173 := Tryd.underlying114
  a173 := Tryd.isAgg114
  z173 := Tryd.sizeOf114
  v173 := Tryd.zeroValue114
  t175 := Tryd.underlying90
  a175 := Tryd.isAgg90
  z175 := Tryd.sizeOf90
  v175 := Tryd.zeroValue90
  t210 := Tryd.underlying94
  a210 := Tryd.isAgg94
  z210 := Tryd.sizeOf94
  v210 := Tryd.zeroValue94
  t212 := Tryd.underlying124
  a212 := Tryd.isAgg124
  z212 := Tryd.sizeOf124
  v212 := Tryd.zeroValue124
  t213 := Tryd.underlying125
  a213 := Tryd.isAgg125
  z213 := Tryd.sizeOf125
  t232 := Tryd.underlying136
  a232 := Tryd.isAgg136
  z232 := Tryd.sizeOf136
  v232 := Tryd.zeroValue136
  t233 := Tryd.underlying137
  a233 := Tryd.isAgg137
  z233 := Tryd.sizeOf137
  v233 := Tryd.zeroValue137
  g15 := by kernel_rfl
  g16 := by kernel_rfl
  g17 := by kernel_rfl
  g18 := by kernel_rfl
  g19 := by kernel_rfl
  t80 := Tryd.underlying82
  a80 := Tryd.isAgg82
  z80 := Tryd.sizeOf82
  v80 := Tryd.zeroValue82
  i0 := by kernel_rfl
  i2 := by kernel_rfl
  i3 := by kernel_rfl
  i4 := by kernel_rfl
  i5 := by kernel_rfl
  i9 := by kernel_rfl
  i20 := by kernel_rfl
  i21 := by kernel_rfl
  i37 := by kernel_rfl
  i46 := by kernel_rfl
  i51 := by kernel_rfl
  i53 := by kernel_rfl
  i75 := by kernel_rfl
  i76 := by kernel_rfl
  i80 := by kernel_rfl
  i85 := by kernel_rfl
  i127 := by kernel_rfl
  i143 := by kernel_rfl
  i145 := by kernel_rfl
  i167 := by kernel_rfl
  i168 := by kernel_rfl
  i171 := by kernel_rfl
  i173 := by kernel_rfl
  i175 := by kernel_rfl
  i210 := by kernel_rfl
  i212 := by kernel_rfl
  i232 := by kernel_rfl
  i233 := by kernel_rfl
  m15 := by kernel_rfl
  m16 := by kernel_rfl
  m17 := by kernel_rfl
  m18 := by kernel_rfl
  m19 := by kernel_rfl
  c0 := by kernel_rfl
  c2 := by kernel_rfl
  c3 := by kernel_rfl
  c4 := by kernel_rfl
  c5 := by kernel_rfl
  c9 := by kernel_rfl
  c20 := by kernel_rfl
  c21 := by kernel_rfl
  c37 := by kernel_rfl
  c46 := by kernel_rfl
  c51 := by kernel_rfl
  c53 := by kernel_rfl
  c75 := by kernel_rfl
  c76 := by kernel_rfl
  c80 := by kernel_rfl
  c85 := by kernel_rfl
  c127 := by kernel_rfl
  c143 := by kernel_rfl
  c145 := by kernel_rfl
  c167 := by kernel_rfl
  c168 := by kernel_rfl
  c171 := by kernel_rfl
  c173 := by kernel_rfl
  c175 := by kernel_rfl
  c210 := by kernel_rfl
  c212 := by kernel_rfl
  c213 := by kernel_rfl
  c232 := by kernel_rfl
  c233 := by kernel_rfl }
open Go.RowKit in
theorem Tryd.strconv_Atoi_ok (s : ByteArray) (hmax : s.size ≤ 9223372036854775806) (v : Int) (h : Lib.atoiAll s.data.toList = .ok v) (w : World) :
    Calls Tryd.prog 13 #[.string s] w fun e w' => e = .returned (.tuple #[.int .i64 v, .nilIface]) ∧ (w' = w ∨ ∃ t, w' = Lib.bytesWorld w 5 t) := Any.strconv_Atoi_ok Tryd.laysC172 s hmax v h w
open Go.RowKit in
open Go.RowKit in
theorem Tryd.strconv_Atoi_range (s : ByteArray) (hlim : s.size ≤ 281474976710656) (h : Lib.atoiAll s.data.toList = .range) (ev : Value) (w : World) (hv : w.cell? ⟨1, 0, none⟩ = some ev) (hev : ev = .nilIface ∨ ∃ te pe, ev = .iface te pe) :
    Calls Tryd.prog 13 #[.string s] w fun e w' => ∃ N, e = .returned (.tuple #[.int .i64 (Lib.atoiSat s.data.toList), .iface 70 (.pointer (some ⟨N, 0, none⟩))]) ∧ w.heap.size ≤ N ∧ w'.heap[N]? = some (.cells #[.string ⟨#[65, 116, 111, 105]⟩, .string s, ev] 94 (0, 0)) ∧ Below w.heap.size w w' := Any.strconv_Atoi_range Tryd.laysC172 s hlim h ev w hv hev
def Tryd.lays105_ren : Go.Shelf.Ren := ⟨fun | 105 => 28 | 212 => 42 | 99 => 43 | 165 => 44 | 166 => 45 | 170 => 46 | 169 => 47 | 263 => 58 | 264 => 59 | 206 => 60 | 240 => 61 | 241 => 62 | 276 => 74 | 277 => 75 | n => n, fun | 9 => 9 | 3 => 3 | 4 => 4 | 20 => 20 | 0 => 0 | 46 => 73 | 109 => 74 | 5 => 5 | 72 => 79 | 76 => 41 | 51 => 22 | 146 => 97 | 53 => 89 | 148 => 99 | 70 => 77 | 37 => 28 | 75 => 40 | 127 => 101 | 164 => 116 | 80 => 82 | n => n, fun | n => n⟩
theorem Tryd.lays105 : Go.Proofs.Lays.n105 Tryd.prog Tryd.lays105_ren := {
  mixed := by kernel_rfl
  f99 := Tryd.func43.trans (congrArg some (by kernel_rfl))
  f105 := Tryd.func28.trans (congrArg some (by kernel_rfl))
  f165 := Tryd.func44.trans (congrArg some (by kernel_rfl))
  f166 := Tryd.func45.trans (congrArg some (by kernel_rfl))
  f169 := Tryd.func47.trans (congrArg some (by kernel_rfl))
  f170 := Tryd.func46.trans (congrArg some (by kernel_rfl))
  f206 := Tryd.func60.trans (congrArg some (by kernel_rfl))
  f212 := Tryd.func42.trans (congrArg some (by kernel_rfl))
  f240 := Tryd.func61.trans (congrArg some (by kernel_rfl))
  f241 := Tryd.func62.trans (congrArg some (by kernel_rfl))
  f263 := Tryd.func58.trans (congrArg some (by kernel_rfl))
  f264 := Tryd.func59.trans (congrArg some (by kernel_rfl))
  f276 := Tryd.func74.trans (congrArg some (by kernel_rfl))
  f277 := Tryd.func75.trans (congrArg some (by kernel_rfl))
  t0 := Tryd.underlying0
  a0 := Tryd.isAgg0
  z0 := Tryd.sizeOf0
  v0 := Tryd.zeroValue0
  t3 := Tryd.underlying3
  a3 := Tryd.isAgg3
  z3 := Tryd.sizeOf3
  v3 := Tryd.zeroValue3
  t4 := Tryd.underlying4
  a4 := Tryd.isAgg4
  z4 := Tryd.sizeOf4
  v4 := Tryd.zeroValue4
  t5 := Tryd.underlying5
  a5 := Tryd.isAgg5
  z5 := Tryd.sizeOf5
  v5 := Tryd.zeroValue5
  t9 := Tryd.underlying9
  a9 := Tryd.isAgg9
  z9 := Tryd.sizeOf9
  v9 := Tryd.zeroValue9
  t20 := Tryd.underlying20
  a20 := Tryd.isAgg20
  z20 := Tryd.sizeOf20
  v20 := Tryd.zeroValue20
  t37 := Tryd.underlying28
  a37 := Tryd.isAgg28
  z37 := Tryd.sizeOf28
  v37 := Tryd.zeroValue28
  t46 := Tryd.underlying73
  a46 := Tryd.isAgg73
  z46 := Tryd.sizeOf73
  v46 := Tryd.zeroValue73
  t51 := Tryd.underlying22
  a51 := Tryd.isAgg22
  z51 := Tryd.sizeOf22
  v51 := Tryd.zeroValue22
  t53 := Tryd.underlying89
  a53 := Tryd.isAgg89
  z53 := Tryd.sizeOf89
  v53 := Tryd.zeroValue89
  t70 := Tryd.underlying77
  a70 := Tryd.isAgg77
  z70 := Tryd.sizeOf77
  v70 := Tryd.zeroValue77
  t72 := Tryd.underlying79
  a72 := Tryd.isAgg79
  z72 := Tryd.sizeOf79
  v72 := Tryd.zeroValue79
  t75 := Tryd.underlying40
  a75 := Tryd.isAgg40
  z75 := Tryd.sizeOf40
  v75 := Tryd.zeroValue40
  t76 := Tryd.underlying41
  a76 := Tryd.isAgg41
  z76 := Tryd.sizeOf41
  v76 := Tryd.zeroValue41
  t109 := Tryd.underlying74
  a109 := Tryd.isAgg74
  z109 := Tryd.sizeOf74
  v109 := Tryd.zeroValue74
  t127 := Tryd.underlying101
  a127 := Tryd.isAgg101
  z127 := Tryd.sizeOf101
  v127 := Tryd.zeroValue101
  t146 := Tryd.underlying97
  a146 := Tryd.isAgg97
  z146 := Tryd.sizeOf97
  v146 := Tryd.zeroValue97
  t148 := Tryd.underlying99
  a148 := Tryd.isAgg99
  z148 := Tryd.sizeOf99
  v148 := Tryd.zeroValue99
  t164 := Tryd.underlying116
  a164 := Tryd.isAgg116
  z164 := Tryd.sizeOf116
  v164 := Tryd.zeroValue116 }
theorem Tryd.Builder_Extra_105 : Builder.Extra Tryd.prog Tryd.lays105_ren := {
  sizeBuilder := by kernel_rfl
  liesBuilder := by kernel_rfl
  t5 := Tryd.underlying5
  a5 := Tryd.isAgg5
  z5 := Tryd.sizeOf5
  v5 := Tryd.zeroValue5
  infoByte := by kernel_rfl
  cellsByte := by kernel_rfl
  sizeByte := by kernel_rfl
  neB5 := by decide }
open Go.RowKit Go.Lib in
open Go.RowKit Go.Lib in
open Go.RowKit Go.Lib in
open Go.RowKit Go.Lib in
open Go.RowKit Go.Lib in
open Go.RowKit Go.Lib in
open Go.RowKit Go.Lib in
theorem Tryd.strings_Repeat (s : ByteArray) (c : Nat) (w : World) (hc : c ≤ 9223372036854775807) (hlen : s.size * c ≤ 140737488355328) :
    Calls Tryd.prog 28 #[.string s, .int .i64 c] w fun e w' => e = .returned (.string ⟨(Lib.repeatL s.data.toList c).toArray⟩) ∧ Below w.heap.size w w' := Any.strings_Repeat Tryd.lays105 Tryd.Builder_Extra_105 s c w hc hlen
end Go.Proofs
end
section
set_option linter.unusedVariables false
namespace Go.Al
open Go
def dig (n : Nat) : UInt8 := UInt8.ofNat (48 + n % 10)
def dN : Nat → Nat → List UInt8
  | 0, _ => []
  | k + 1, n => dN k (n / 10) ++ [dig n]
theorem dN_length : ∀ k n, (dN k n).length = k
  | 0, _ => rfl
  | k + 1, n => by simp [dN, dN_length k]
theorem dN_zero : ∀ k, dN k 0 = List.replicate k 48
  | 0 => rfl
  | k + 1 => by
    rw [dN, Nat.zero_div, dN_zero k, List.replicate_succ']; rfl
theorem dec_big {n : Nat} (h : ¬ n < 10) : Lib.decDigits n = Lib.decDigits (n / 10) ++ [dig n] := by
  rw [Lib.decDigits, dif_neg h]; rfl
theorem dec_small {n : Nat} (h : n < 10) : Lib.decDigits n = [dig n] := by
  rw [Lib.decDigits, dif_pos h, dig, Nat.mod_eq_of_lt h]
theorem dec_pad : ∀ (k n : Nat), n < 10 ^ (k + 1) → (Lib.decDigits n).length ≤ k + 1 ∧ List.replicate (k + 1 - (Lib.decDigits n).length) 48 ++ Lib.decDigits n = dN (k + 1) n := by
  intro k
  induction k with
  | zero =>
    intro n h
    have h1 : n < 10 := by simpa using h
    rw [dec_small h1]
    simp [dN]
  | succ k ih =>
    intro n h
    by_cases h1 : n < 10
    · rw [dec_small h1]
      refine ⟨by simp, ?_⟩
      rw [dN, Nat.div_eq_of_lt h1, dN_zero]
      simp
    · rw [dec_big h1]
      obtain ⟨h2, h3⟩ := ih (n / 10) (by rw [Nat.pow_succ] at h; omega)
      refine ⟨by simp; exact h2, ?_⟩
      rw [dN, ← h3, List.length_append, ← List.append_assoc]
      simp
def cl (n : Int) : Nat := (max 0 (min n 9999999999)).toNat
theorem cl_lt (n : Int) : cl n < 10 ^ 10 := by unfold cl; omega
def rkey (v : Nat) (t : UInt8) (id seq : Int) : List UInt8 := [UInt8.ofNat (48 + v), t] ++ dN 10 (cl id) ++ dN 10 (cl seq)
theorem rkey_length (v : Nat) (t : UInt8) (id seq : Int) : (rkey v t id seq).length = 22 := by simp [rkey, dN_length]
theorem digitVal_dig (n : Nat) : Lib.digitVal (dig n) = some (n % 10) := by
  have e : (dig n).toNat = 48 + n % 10 := by simp [dig]; omega
  rw [Lib.digitVal, e, if_pos (by omega)]; simp
theorem decFrom_append : ∀ (a b : List UInt8) (acc m : Nat), Lib.decFrom acc a = some m → Lib.decFrom acc (a ++ b) = Lib.decFrom m b
  | [], b, acc, m, h => by simp only [Lib.decFrom, Option.some.injEq] at h; subst h; rfl
  | x :: a, b, acc, m, h => by
    simp only [List.cons_append, Lib.decFrom] at h ⊢
    cases hx : Lib.digitVal x with
    | none => simp [hx] at h
    | some d => simp only [hx] at h ⊢; exact decFrom_append a b _ m h
theorem decFrom_dN : ∀ (k n acc : Nat), Lib.decFrom acc (dN k n) = some (acc * 10 ^ k + n % 10 ^ k)
  | 0, n, acc => by simp [dN, Lib.decFrom, Nat.mod_one]
  | k + 1, n, acc => by
    rw [dN, decFrom_append _ _ _ _ (decFrom_dN k (n / 10) acc)]
    simp only [Lib.decFrom, digitVal_dig, Option.some.injEq]
    have h1 : n % 10 ^ (k + 1) = n / 10 % 10 ^ k * 10 + n % 10 := by
      rw [Nat.pow_succ, Nat.mul_comm (10 ^ k) 10, Nat.mod_mul, Nat.mul_comm 10, Nat.add_comm]
    rw [h1, Nat.pow_succ, ← Nat.mul_assoc, Nat.add_mul]; omega
theorem dig_ge (n : Nat) : 48 ≤ (dig n).toNat ∧ (dig n).toNat ≤ 57 := by
  have e : (dig n).toNat = 48 + n % 10 := by simp [dig]; omega
  omega
theorem dN_digits : ∀ (k n : Nat), ∀ b ∈ dN k n, 48 ≤ b.toNat ∧ b.toNat ≤ 57
  | 0, n, b, h => by simp [dN] at h
  | k + 1, n, b, h => by
    rw [dN, List.mem_append] at h
    rcases h with h | h
    · exact dN_digits k _ b h
    · obtain rfl : b = dig n := by simpa using h
      exact dig_ge n
theorem atoi_dN (k n : Nat) (h : n < 10 ^ (k + 1)) : Lib.atoi (dN (k + 1) n) = some n := by
  have hd := dN_digits (k + 1) n
  have hf := decFrom_dN (k + 1) n 0
  have hl := dN_length (k + 1) n
  generalize dN (k + 1) n = l at hd hf hl
  cases l with
  | nil => simp at hl
  | cons b r =>
    have h1 := hd b (by simp)
    have n1 : (b == 45) = false := by
      rw [beq_eq_false_iff_ne]; rintro rfl; simp at h1
    have n2 : (b == 43) = false := by
      rw [beq_eq_false_iff_ne]; rintro rfl; simp at h1
    rw [Lib.atoi, n1, n2]
    simp only [Bool.false_eq_true, if_false, Lib.decNat, List.isEmpty_cons, hf, Option.map_some]
    simp [Nat.mod_eq_of_lt h]
theorem dN_inj {k n m : Nat} (hn : n < 10 ^ k) (hm : m < 10 ^ k) (h : dN k n = dN k m) : n = m := by
  have h1 := decFrom_dN k n 0
  rw [h, decFrom_dN k m 0, Nat.mod_eq_of_lt hn, Nat.mod_eq_of_lt hm] at h1
  simpa using h1.symm
end Go.Al
end
section
set_option linter.unusedVariables false
namespace Go.Proofs.YtgliemhhnkhboaaDoor.Ty
open Go.Al
theorem mixed : Tryd.prog.follows .mixedOrders = true := by kernel_rfl
theorem size2 : (Tryd.prog.info? 2).map (·.size) = some 1 := by kernel_rfl
theorem size3 : (Tryd.prog.info? 3).map (·.size) = some 1 := by kernel_rfl
theorem zero3 : (Tryd.prog.info? 3).bind (·.zero) = some (.int .i64 0) := by kernel_rfl
theorem size4 : (Tryd.prog.info? 4).map (·.size) = some 1 := by kernel_rfl
theorem size5 : (Tryd.prog.info? 5).map (·.size) = some 1 := by kernel_rfl
theorem zero5 : (Tryd.prog.info? 5).bind (·.zero) = some (.int .u8 0) := by kernel_rfl
theorem size9 : (Tryd.prog.info? 9).map (·.size) = some 1 := by kernel_rfl
theorem zero9 : (Tryd.prog.info? 9).bind (·.zero) = some (.string ⟨#[]⟩) := by kernel_rfl
theorem size21 : (Tryd.prog.info? 21).map (·.size) = some 1 := by kernel_rfl
theorem size22 : (Tryd.prog.info? 22).map (·.size) = some 1 := by kernel_rfl
theorem size28 : (Tryd.prog.info? 28).map (·.size) = some 1 := by kernel_rfl
theorem size29 : (Tryd.prog.info? 29).map (·.size) = some 1 := by kernel_rfl
theorem size30 : (Tryd.prog.info? 30).map (·.size) = some 1 := by kernel_rfl
theorem size32 : (Tryd.prog.info? 32).map (·.size) = some 10 := by kernel_rfl
theorem zero32 : (Tryd.prog.info? 32).bind (·.zero) = some (.agg #[(.int .i64 0), (.string ⟨#[]⟩), (.string ⟨#[]⟩), (.string ⟨#[]⟩), (.int .i64 0), (.int .i64 0), (.int .i64 0), (.slice none 0 0), (.slice none 0 0), (.string ⟨#[]⟩)]) := by kernel_rfl
theorem size40 : (Tryd.prog.info? 40).map (·.size) = some 1 := by kernel_rfl
theorem size45 : (Tryd.prog.info? 45).map (·.size) = some 1 := by kernel_rfl
theorem size47 : (Tryd.prog.info? 47).map (·.size) = some 4 := by kernel_rfl
theorem zero47 : (Tryd.prog.info? 47).bind (·.zero) = some (.agg #[(.int .i64 0), (.int .i64 0), (.int .i64 0), (.slice none 0 0)]) := by kernel_rfl
theorem size50 : (Tryd.prog.info? 50).map (·.size) = some 1 := by kernel_rfl
theorem size52 : (Tryd.prog.info? 52).map (·.size) = some 8 := by kernel_rfl
theorem zero52 : (Tryd.prog.info? 52).bind (·.zero) = some (.agg #[(.int .i64 0), (.string ⟨#[]⟩), (.string ⟨#[]⟩), (.int .i64 0), (.int .i64 0), (.bool false), (.string ⟨#[]⟩), (.int .i64 0)]) := by kernel_rfl
theorem size55 : (Tryd.prog.info? 55).map (·.size) = some 1 := by kernel_rfl
theorem size67 : (Tryd.prog.info? 67).map (·.size) = some 1 := by kernel_rfl
theorem size70 : (Tryd.prog.info? 70).map (·.size) = some 1 := by kernel_rfl
theorem size73 : (Tryd.prog.info? 73).map (·.size) = some 1 := by kernel_rfl
theorem size77 : (Tryd.prog.info? 77).map (·.size) = some 1 := by kernel_rfl
theorem size79 : (Tryd.prog.info? 79).map (·.size) = some 2 := by kernel_rfl
theorem zero79 : (Tryd.prog.info? 79).bind (·.zero) = some (.agg #[(.pointer none), (.slice none 0 0)]) := by kernel_rfl
theorem size89 : (Tryd.prog.info? 89).map (·.size) = some 1 := by kernel_rfl
theorem size94 : (Tryd.prog.info? 94).map (·.size) = some 3 := by kernel_rfl
theorem zero94 : (Tryd.prog.info? 94).bind (·.zero) = some (.agg #[(.string ⟨#[]⟩), (.string ⟨#[]⟩), .nilIface]) := by kernel_rfl
theorem size101 : (Tryd.prog.info? 101).map (·.size) = some 1 := by kernel_rfl
theorem size108 : (Tryd.prog.info? 108).map (·.size) = some 1 := by kernel_rfl
theorem size110 : (Tryd.prog.info? 110).map (·.size) = some 1 := by kernel_rfl
theorem zero110 : (Tryd.prog.info? 110).bind (·.zero) = some (.agg #[(.string ⟨#[]⟩)]) := by kernel_rfl
theorem size111 : (Tryd.prog.info? 111).map (·.size) = some 24 := by kernel_rfl
theorem zero111 : (Tryd.prog.info? 111).bind (·.zero) = some (.agg #[(.int .u8 0), (.int .u8 0), (.int .u8 0), (.int .u8 0), (.int .u8 0), (.int .u8 0), (.int .u8 0), (.int .u8 0), (.int .u8 0), (.int .u8 0), (.int .u8 0), (.int .u8 0), (.int .u8 0), (.int .u8 0), (.int .u8 0), (.int .u8 0), (.int .u8 0), (.int .u8 0), (.int .u8 0), (.int .u8 0), (.int .u8 0), (.int .u8 0), (.int .u8 0), (.int .u8 0)]) := by kernel_rfl
theorem size116 : (Tryd.prog.info? 116).map (·.size) = some 1 := by kernel_rfl
theorem size124 : (Tryd.prog.info? 124).map (·.size) = some 20 := by kernel_rfl
theorem zero124 : (Tryd.prog.info? 124).bind (·.zero) = some (.agg #[(.int .u64 0), (.int .u64 0), (.int .u64 0), (.int .u64 0), (.int .u64 0), (.int .u64 0), (.int .u64 0), (.int .u64 0), (.int .u64 0), (.int .u64 0), (.int .u64 0), (.int .u64 0), (.int .u64 0), (.int .u64 0), (.int .u64 0), (.int .u64 0), (.int .u64 0), (.int .u64 0), (.int .u64 0), (.int .u64 0)]) := by kernel_rfl
theorem size125 : (Tryd.prog.info? 125).map (·.size) = some 65 := by kernel_rfl
theorem zero125 : (Tryd.prog.info? 125).bind (·.zero) = some (.agg #[(.int .u8 0), (.int .u8 0), (.int .u8 0), (.int .u8 0), (.int .u8 0), (.int .u8 0), (.int .u8 0), (.int .u8 0), (.int .u8 0), (.int .u8 0), (.int .u8 0), (.int .u8 0), (.int .u8 0), (.int .u8 0), (.int .u8 0), (.int .u8 0), (.int .u8 0), (.int .u8 0), (.int .u8 0), (.int .u8 0), (.int .u8 0), (.int .u8 0), (.int .u8 0), (.int .u8 0), (.int .u8 0), (.int .u8 0), (.int .u8 0), (.int .u8 0), (.int .u8 0), (.int .u8 0), (.int .u8 0), (.int .u8 0), (.int .u8 0), (.int .u8 0), (.int .u8 0), (.int .u8 0), (.int .u8 0), (.int .u8 0), (.int .u8 0), (.int .u8 0), (.int .u8 0), (.int .u8 0), (.int .u8 0), (.int .u8 0), (.int .u8 0), (.int .u8 0), (.int .u8 0), (.int .u8 0), (.int .u8 0), (.int .u8 0), (.int .u8 0), (.int .u8 0), (.int .u8 0), (.int .u8 0), (.int .u8 0), (.int .u8 0), (.int .u8 0), (.int .u8 0), (.int .u8 0), (.int .u8 0), (.int .u8 0), (.int .u8 0), (.int .u8 0), (.int .u8 0), (.int .u8 0)]) := by kernel_rfl
theorem size131 : (Tryd.prog.info? 131).map (·.size) = some 256 := by kernel_rfl
theorem zero131 : (Tryd.prog.info? 131).bind (·.zero) = some (.agg #[(.int .u8 0), (.int .u8 0), (.int .u8 0), (.int .u8 0), (.int .u8 0), (.int .u8 0), (.int .u8 0), (.int .u8 0), (.int .u8 0), (.int .u8 0), (.int .u8 0), (.int .u8 0), (.int .u8 0), (.int .u8 0), (.int .u8 0), (.int .u8 0), (.int .u8 0), (.int .u8 0), (.int .u8 0), (.int .u8 0), (.int .u8 0), (.int .u8 0), (.int .u8 0), (.int .u8 0), (.int .u8 0), (.int .u8 0), (.int .u8 0), (.int .u8 0), (.int .u8 0), (.int .u8 0), (.int .u8 0), (.int .u8 0), (.int .u8 0), (.int .u8 0), (.int .u8 0), (.int .u8 0), (.int .u8 0), (.int .u8 0), (.int .u8 0), (.int .u8 0), (.int .u8 0), (.int .u8 0), (.int .u8 0), (.int .u8 0), (.int .u8 0), (.int .u8 0), (.int .u8 0), (.int .u8 0), (.int .u8 0), (.int .u8 0), (.int .u8 0), (.int .u8 0), (.int .u8 0), (.int .u8 0), (.int .u8 0), (.int .u8 0), (.int .u8 0), (.int .u8 0), (.int .u8 0), (.int .u8 0), (.int .u8 0), (.int .u8 0), (.int .u8 0), (.int .u8 0), (.int .u8 0), (.int .u8 0), (.int .u8 0), (.int .u8 0), (.int .u8 0), (.int .u8 0), (.int .u8 0), (.int .u8 0), (.int .u8 0), (.int .u8 0), (.int .u8 0), (.int .u8 0), (.int .u8 0), (.int .u8 0), (.int .u8 0), (.int .u8 0), (.int .u8 0), (.int .u8 0), (.int .u8 0), (.int .u8 0), (.int .u8 0), (.int .u8 0), (.int .u8 0), (.int .u8 0), (.int .u8 0), (.int .u8 0), (.int .u8 0), (.int .u8 0), (.int .u8 0), (.int .u8 0), (.int .u8 0), (.int .u8 0), (.int .u8 0), (.int .u8 0), (.int .u8 0), (.int .u8 0), (.int .u8 0), (.int .u8 0), (.int .u8 0), (.int .u8 0), (.int .u8 0), (.int .u8 0), (.int .u8 0), (.int .u8 0), (.int .u8 0), (.int .u8 0), (.int .u8 0), (.int .u8 0), (.int .u8 0), (.int .u8 0), (.int .u8 0), (.int .u8 0), (.int .u8 0), (.int .u8 0), (.int .u8 0), (.int .u8 0), (.int .u8 0), (.int .u8 0), (.int .u8 0), (.int .u8 0), (.int .u8 0), (.int .u8 0), (.int .u8 0), (.int .u8 0), (.int .u8 0), (.int .u8 0), (.int .u8 0), (.int .u8 0), (.int .u8 0), (.int .u8 0), (.int .u8 0), (.int .u8 0), (.int .u8 0), (.int .u8 0), (.int .u8 0), (.int .u8 0), (.int .u8 0), (.int .u8 0), (.int .u8 0), (.int .u8 0), (.int .u8 0), (.int .u8 0), (.int .u8 0), (.int .u8 0), (.int .u8 0), (.int .u8 0), (.int .u8 0), (.int .u8 0), (.int .u8 0), (.int .u8 0), (.int .u8 0), (.int .u8 0), (.int .u8 0), (.int .u8 0), (.int .u8 0), (.int .u8 0), (.int .u8 0), (.int .u8 0), (.int .u8 0), (.int .u8 0), (.int .u8 0), (.int .u8 0), (.int .u8 0), (.int .u8 0), (.int .u8 0), (.int .u8 0), (.int .u8 0), (.int .u8 0), (.int .u8 0), (.int .u8 0), (.int .u8 0), (.int .u8 0), (.int .u8 0), (.int .u8 0), (.int .u8 0), (.int .u8 0), (.int .u8 0), (.int .u8 0), (.int .u8 0), (.int .u8 0), (.int .u8 0), (.int .u8 0), (.int .u8 0), (.int .u8 0), (.int .u8 0), (.int .u8 0), (.int .u8 0), (.int .u8 0), (.int .u8 0), (.int .u8 0), (.int .u8 0), (.int .u8 0), (.int .u8 0), (.int .u8 0), (.int .u8 0), (.int .u8 0), (.int .u8 0), (.int .u8 0), (.int .u8 0), (.int .u8 0), (.int .u8 0), (.int .u8 0), (.int .u8 0), (.int .u8 0), (.int .u8 0), (.int .u8 0), (.int .u8 0), (.int .u8 0), (.int .u8 0), (.int .u8 0), (.int .u8 0), (.int .u8 0), (.int .u8 0), (.int .u8 0), (.int .u8 0), (.int .u8 0), (.int .u8 0), (.int .u8 0), (.int .u8 0), (.int .u8 0), (.int .u8 0), (.int .u8 0), (.int .u8 0), (.int .u8 0), (.int .u8 0), (.int .u8 0), (.int .u8 0), (.int .u8 0), (.int .u8 0), (.int .u8 0), (.int .u8 0), (.int .u8 0), (.int .u8 0), (.int .u8 0), (.int .u8 0), (.int .u8 0), (.int .u8 0), (.int .u8 0), (.int .u8 0), (.int .u8 0), (.int .u8 0), (.int .u8 0), (.int .u8 0), (.int .u8 0), (.int .u8 0), (.int .u8 0), (.int .u8 0), (.int .u8 0), (.int .u8 0), (.int .u8 0), (.int .u8 0), (.int .u8 0)]) := by kernel_rfl
theorem size133 : (Tryd.prog.info? 133).map (·.size) = some 2 := by kernel_rfl
theorem zero133 : (Tryd.prog.info? 133).bind (·.zero) = some (.agg #[(.int .u8 0), (.int .u8 0)]) := by kernel_rfl
theorem size134 : (Tryd.prog.info? 134).map (·.size) = some 32 := by kernel_rfl
theorem zero134 : (Tryd.prog.info? 134).bind (·.zero) = some (.agg #[(.int .u8 0), (.int .u8 0), (.int .u8 0), (.int .u8 0), (.int .u8 0), (.int .u8 0), (.int .u8 0), (.int .u8 0), (.int .u8 0), (.int .u8 0), (.int .u8 0), (.int .u8 0), (.int .u8 0), (.int .u8 0), (.int .u8 0), (.int .u8 0), (.int .u8 0), (.int .u8 0), (.int .u8 0), (.int .u8 0), (.int .u8 0), (.int .u8 0), (.int .u8 0), (.int .u8 0), (.int .u8 0), (.int .u8 0), (.int .u8 0), (.int .u8 0), (.int .u8 0), (.int .u8 0), (.int .u8 0), (.int .u8 0)]) := by kernel_rfl
theorem size136 : (Tryd.prog.info? 136).map (·.size) = some 32 := by kernel_rfl
theorem zero136 : (Tryd.prog.info? 136).bind (·.zero) = some (.agg #[(.int .u8 0), (.int .u8 0), (.int .u8 0), (.int .u8 0), (.int .u8 0), (.int .u8 0), (.int .u8 0), (.int .u8 0), (.int .u8 0), (.int .u8 0), (.int .u8 0), (.int .u8 0), (.int .u8 0), (.int .u8 0), (.int .u8 0), (.int .u8 0), (.int .u8 0), (.int .u8 0), (.int .u8 0), (.int .u8 0), (.int .u8 0), (.int .u8 0), (.int .u8 0), (.int .u8 0), (.int .u8 0), (.int .u8 0), (.int .u8 0), (.int .u8 0), (.int .u8 0), (.int .u8 0), (.int .u8 0), (.int .u8 0)]) := by kernel_rfl
theorem size137 : (Tryd.prog.info? 137).map (·.size) = some 64 := by kernel_rfl
theorem zero137 : (Tryd.prog.info? 137).bind (·.zero) = some (.agg #[(.int .u8 0), (.int .u8 0), (.int .u8 0), (.int .u8 0), (.int .u8 0), (.int .u8 0), (.int .u8 0), (.int .u8 0), (.int .u8 0), (.int .u8 0), (.int .u8 0), (.int .u8 0), (.int .u8 0), (.int .u8 0), (.int .u8 0), (.int .u8 0), (.int .u8 0), (.int .u8 0), (.int .u8 0), (.int .u8 0), (.int .u8 0), (.int .u8 0), (.int .u8 0), (.int .u8 0), (.int .u8 0), (.int .u8 0), (.int .u8 0), (.int .u8 0), (.int .u8 0), (.int .u8 0), (.int .u8 0), (.int .u8 0), (.int .u8 0), (.int .u8 0), (.int .u8 0), (.int .u8 0), (.int .u8 0), (.int .u8 0), (.int .u8 0), (.int .u8 0), (.int .u8 0), (.int .u8 0), (.int .u8 0), (.int .u8 0), (.int .u8 0), (.int .u8 0), (.int .u8 0), (.int .u8 0), (.int .u8 0), (.int .u8 0), (.int .u8 0), (.int .u8 0), (.int .u8 0), (.int .u8 0), (.int .u8 0), (.int .u8 0), (.int .u8 0), (.int .u8 0), (.int .u8 0), (.int .u8 0), (.int .u8 0), (.int .u8 0), (.int .u8 0), (.int .u8 0)]) := by kernel_rfl
-- slice 28 of 5: 1 cells, 1 bytes
-- slice 29 of 3: 1 cells, 8 bytes
-- slice 30 of 52: 8 cells, 88 bytes
-- slice 45 of 32: 10 cells, 144 bytes
-- slice 50 of 9: 1 cells, 16 bytes
end Go.Proofs.YtgliemhhnkhboaaDoor.Ty
end
section
set_option linter.unusedVariables false
namespace Go.Proofs.YtgliemhhnkhboaaDoor.Ty
open Go.Al
instance : TyU Tryd.prog 2 (.int .i64) := ⟨Tryd.underlying2⟩
instance : TyA Tryd.prog 2 false := ⟨_, Tryd.underlying2, rfl⟩
instance : TyS Tryd.prog 2 1 := ⟨Ty.size2⟩
instance : TyU Tryd.prog 3 (.int .i64) := ⟨Tryd.underlying3⟩
instance : TyA Tryd.prog 3 false := ⟨_, Tryd.underlying3, rfl⟩
instance : TyS Tryd.prog 3 1 := ⟨Ty.size3⟩
instance : TyU Tryd.prog 4 .bool := ⟨Tryd.underlying4⟩
instance : TyA Tryd.prog 4 false := ⟨_, Tryd.underlying4, rfl⟩
instance : TyS Tryd.prog 4 1 := ⟨Ty.size4⟩
instance : TyU Tryd.prog 5 (.int .u8) := ⟨Tryd.underlying5⟩
instance : TyA Tryd.prog 5 false := ⟨_, Tryd.underlying5, rfl⟩
instance : TyS Tryd.prog 5 1 := ⟨Ty.size5⟩
instance : TyU Tryd.prog 9 .string := ⟨Tryd.underlying9⟩
instance : TyA Tryd.prog 9 false := ⟨_, Tryd.underlying9, rfl⟩
instance : TyS Tryd.prog 9 1 := ⟨Ty.size9⟩
instance : TyU Tryd.prog 21 (.int .i32) := ⟨Tryd.underlying21⟩
instance : TyA Tryd.prog 21 false := ⟨_, Tryd.underlying21, rfl⟩
instance : TyS Tryd.prog 21 1 := ⟨Ty.size21⟩
instance : TyU Tryd.prog 22 (.int .u32) := ⟨Tryd.underlying22⟩
instance : TyA Tryd.prog 22 false := ⟨_, Tryd.underlying22, rfl⟩
instance : TyS Tryd.prog 22 1 := ⟨Ty.size22⟩
instance : TyU Tryd.prog 28 (.slice 5) := ⟨Tryd.underlying28⟩
instance : TyA Tryd.prog 28 false := ⟨_, Tryd.underlying28, rfl⟩
instance : TyS Tryd.prog 28 1 := ⟨Ty.size28⟩
instance : SlI Tryd.prog 28 1 := .of (z := (.int .u8 0)) Tryd.underlying28 Ty.size5 Ty.zero5 rfl (by decide)
instance : TyU Tryd.prog 29 (.slice 3) := ⟨Tryd.underlying29⟩
instance : TyA Tryd.prog 29 false := ⟨_, Tryd.underlying29, rfl⟩
instance : TyS Tryd.prog 29 1 := ⟨Ty.size29⟩
instance : SlI Tryd.prog 29 1 := .of (z := (.int .i64 0)) Tryd.underlying29 Ty.size3 Ty.zero3 rfl (by decide)
instance : TyU Tryd.prog 30 (.slice 52) := ⟨Tryd.underlying30⟩
instance : TyA Tryd.prog 30 false := ⟨_, Tryd.underlying30, rfl⟩
instance : TyS Tryd.prog 30 1 := ⟨Ty.size30⟩
instance : SlI Tryd.prog 30 8 := .of (z := (.agg #[(.int .i64 0), (.string ⟨#[]⟩), (.string ⟨#[]⟩), (.int .i64 0), (.int .i64 0), (.bool false), (.string ⟨#[]⟩), (.int .i64 0)])) Tryd.underlying30 Ty.size52 Ty.zero52 rfl (by decide)
instance : TyA Tryd.prog 32 true := ⟨_, Tryd.underlying32, rfl⟩
instance : TyS Tryd.prog 32 10 := ⟨Ty.size32⟩
instance : BldI Tryd.prog 32 [(.int .i64 0), .str [], .str [], .str [], (.int .i64 0), (.int .i64 0), (.int .i64 0), .nils, .nils, .str []] [(0, 1), (1, 1), (2, 1), (3, 1), (4, 1), (5, 1), (6, 1), (7, 1), (8, 1), (9, 1)] := .struct (za := #[(.int .i64 0), (.string ⟨#[]⟩), (.string ⟨#[]⟩), (.string ⟨#[]⟩), (.int .i64 0), (.int .i64 0), (.int .i64 0), (.slice none 0 0), (.slice none 0 0), (.string ⟨#[]⟩)]) Tryd.underlying32 Ty.zero32 (by kernel_rfl) (by kernel_rfl) (by kernel_rfl) (by kernel_rfl)
instance : TyF Tryd.prog 32 0 3 0 1 false := ⟨_, _, _, Tryd.underlying32, rfl, rfl, rfl, Ty.size3, Tryd.underlying3, rfl⟩
instance : TyF Tryd.prog 32 1 9 1 1 false := ⟨_, _, _, Tryd.underlying32, rfl, rfl, rfl, Ty.size9, Tryd.underlying9, rfl⟩
instance : TyF Tryd.prog 32 2 9 2 1 false := ⟨_, _, _, Tryd.underlying32, rfl, rfl, rfl, Ty.size9, Tryd.underlying9, rfl⟩
instance : TyF Tryd.prog 32 3 9 3 1 false := ⟨_, _, _, Tryd.underlying32, rfl, rfl, rfl, Ty.size9, Tryd.underlying9, rfl⟩
instance : TyF Tryd.prog 32 4 3 4 1 false := ⟨_, _, _, Tryd.underlying32, rfl, rfl, rfl, Ty.size3, Tryd.underlying3, rfl⟩
instance : TyF Tryd.prog 32 5 3 5 1 false := ⟨_, _, _, Tryd.underlying32, rfl, rfl, rfl, Ty.size3, Tryd.underlying3, rfl⟩
instance : TyF Tryd.prog 32 6 3 6 1 false := ⟨_, _, _, Tryd.underlying32, rfl, rfl, rfl, Ty.size3, Tryd.underlying3, rfl⟩
instance : TyF Tryd.prog 32 7 29 7 1 false := ⟨_, _, _, Tryd.underlying32, rfl, rfl, rfl, Ty.size29, Tryd.underlying29, rfl⟩
instance : TyF Tryd.prog 32 8 30 8 1 false := ⟨_, _, _, Tryd.underlying32, rfl, rfl, rfl, Ty.size30, Tryd.underlying30, rfl⟩
instance : TyF Tryd.prog 32 9 9 9 1 false := ⟨_, _, _, Tryd.underlying32, rfl, rfl, rfl, Ty.size9, Tryd.underlying9, rfl⟩
instance : TyA Tryd.prog 40 false := ⟨_, Tryd.underlying40, rfl⟩
instance : TyS Tryd.prog 40 1 := ⟨Ty.size40⟩
instance : TyU Tryd.prog 45 (.slice 32) := ⟨Tryd.underlying45⟩
instance : TyA Tryd.prog 45 false := ⟨_, Tryd.underlying45, rfl⟩
instance : TyS Tryd.prog 45 1 := ⟨Ty.size45⟩
instance : SlI Tryd.prog 45 10 := .of (z := (.agg #[(.int .i64 0), (.string ⟨#[]⟩), (.string ⟨#[]⟩), (.string ⟨#[]⟩), (.int .i64 0), (.int .i64 0), (.int .i64 0), (.slice none 0 0), (.slice none 0 0), (.string ⟨#[]⟩)])) Tryd.underlying45 Ty.size32 Ty.zero32 rfl (by decide)
instance : TyA Tryd.prog 47 true := ⟨_, Tryd.underlying47, rfl⟩
instance : TyS Tryd.prog 47 4 := ⟨Ty.size47⟩
instance : BldI Tryd.prog 47 [(.int .i64 0), (.int .i64 0), (.int .i64 0), .nils] [(0, 1), (1, 1), (2, 1), (3, 1)] := .struct (za := #[(.int .i64 0), (.int .i64 0), (.int .i64 0), (.slice none 0 0)]) Tryd.underlying47 Ty.zero47 (by kernel_rfl) (by kernel_rfl) (by kernel_rfl) (by kernel_rfl)
instance : TyF Tryd.prog 47 0 3 0 1 false := ⟨_, _, _, Tryd.underlying47, rfl, rfl, rfl, Ty.size3, Tryd.underlying3, rfl⟩
instance : TyF Tryd.prog 47 1 3 1 1 false := ⟨_, _, _, Tryd.underlying47, rfl, rfl, rfl, Ty.size3, Tryd.underlying3, rfl⟩
instance : TyF Tryd.prog 47 2 3 2 1 false := ⟨_, _, _, Tryd.underlying47, rfl, rfl, rfl, Ty.size3, Tryd.underlying3, rfl⟩
instance : TyF Tryd.prog 47 3 45 3 1 false := ⟨_, _, _, Tryd.underlying47, rfl, rfl, rfl, Ty.size45, Tryd.underlying45, rfl⟩
instance : TyU Tryd.prog 50 (.slice 9) := ⟨Tryd.underlying50⟩
instance : TyA Tryd.prog 50 false := ⟨_, Tryd.underlying50, rfl⟩
instance : TyS Tryd.prog 50 1 := ⟨Ty.size50⟩
instance : SlI Tryd.prog 50 1 := .of (z := (.string ⟨#[]⟩)) Tryd.underlying50 Ty.size9 Ty.zero9 rfl (by decide)
instance : TyA Tryd.prog 52 true := ⟨_, Tryd.underlying52, rfl⟩
instance : TyS Tryd.prog 52 8 := ⟨Ty.size52⟩
instance : BldI Tryd.prog 52 [(.int .i64 0), .str [], .str [], (.int .i64 0), (.int .i64 0), (.bool false), .str [], (.int .i64 0)] [(0, 1), (1, 1), (2, 1), (3, 1), (4, 1), (5, 1), (6, 1), (7, 1)] := .struct (za := #[(.int .i64 0), (.string ⟨#[]⟩), (.string ⟨#[]⟩), (.int .i64 0), (.int .i64 0), (.bool false), (.string ⟨#[]⟩), (.int .i64 0)]) Tryd.underlying52 Ty.zero52 (by kernel_rfl) (by kernel_rfl) (by kernel_rfl) (by kernel_rfl)
instance : TyF Tryd.prog 52 0 3 0 1 false := ⟨_, _, _, Tryd.underlying52, rfl, rfl, rfl, Ty.size3, Tryd.underlying3, rfl⟩
instance : TyF Tryd.prog 52 1 9 1 1 false := ⟨_, _, _, Tryd.underlying52, rfl, rfl, rfl, Ty.size9, Tryd.underlying9, rfl⟩
instance : TyF Tryd.prog 52 2 9 2 1 false := ⟨_, _, _, Tryd.underlying52, rfl, rfl, rfl, Ty.size9, Tryd.underlying9, rfl⟩
instance : TyF Tryd.prog 52 3 3 3 1 false := ⟨_, _, _, Tryd.underlying52, rfl, rfl, rfl, Ty.size3, Tryd.underlying3, rfl⟩
instance : TyF Tryd.prog 52 4 3 4 1 false := ⟨_, _, _, Tryd.underlying52, rfl, rfl, rfl, Ty.size3, Tryd.underlying3, rfl⟩
instance : TyF Tryd.prog 52 5 4 5 1 false := ⟨_, _, _, Tryd.underlying52, rfl, rfl, rfl, Ty.size4, Tryd.underlying4, rfl⟩
instance : TyF Tryd.prog 52 6 9 6 1 false := ⟨_, _, _, Tryd.underlying52, rfl, rfl, rfl, Ty.size9, Tryd.underlying9, rfl⟩
instance : TyF Tryd.prog 52 7 3 7 1 false := ⟨_, _, _, Tryd.underlying52, rfl, rfl, rfl, Ty.size3, Tryd.underlying3, rfl⟩
instance : TyA Tryd.prog 55 false := ⟨_, Tryd.underlying55, rfl⟩
instance : TyS Tryd.prog 55 1 := ⟨Ty.size55⟩
instance : TyU Tryd.prog 67 (.int .i64) := ⟨Tryd.underlying67⟩
instance : TyA Tryd.prog 67 false := ⟨_, Tryd.underlying67, rfl⟩
instance : TyS Tryd.prog 67 1 := ⟨Ty.size67⟩
instance : TyU Tryd.prog 70 (.pointer 94) := ⟨Tryd.underlying70⟩
instance : TyA Tryd.prog 70 false := ⟨_, Tryd.underlying70, rfl⟩
instance : TyS Tryd.prog 70 1 := ⟨Ty.size70⟩
instance : TyU Tryd.prog 73 (.int .u64) := ⟨Tryd.underlying73⟩
instance : TyA Tryd.prog 73 false := ⟨_, Tryd.underlying73, rfl⟩
instance : TyS Tryd.prog 73 1 := ⟨Ty.size73⟩
instance : TyU Tryd.prog 77 (.pointer 79) := ⟨Tryd.underlying77⟩
instance : TyA Tryd.prog 77 false := ⟨_, Tryd.underlying77, rfl⟩
instance : TyS Tryd.prog 77 1 := ⟨Ty.size77⟩
instance : TyA Tryd.prog 79 true := ⟨_, Tryd.underlying79, rfl⟩
instance : TyS Tryd.prog 79 2 := ⟨Ty.size79⟩
instance : BldI Tryd.prog 79 [.nilp, .nils] [(0, 1), (1, 1)] := .struct (za := #[(.pointer none), (.slice none 0 0)]) Tryd.underlying79 Ty.zero79 (by kernel_rfl) (by kernel_rfl) (by kernel_rfl) (by kernel_rfl)
instance : TyF Tryd.prog 79 0 77 0 1 false := ⟨_, _, _, Tryd.underlying79, rfl, rfl, rfl, Ty.size77, Tryd.underlying77, rfl⟩
instance : TyF Tryd.prog 79 1 28 1 1 false := ⟨_, _, _, Tryd.underlying79, rfl, rfl, rfl, Ty.size28, Tryd.underlying28, rfl⟩
instance : TyU Tryd.prog 89 (.int .u64) := ⟨Tryd.underlying89⟩
instance : TyA Tryd.prog 89 false := ⟨_, Tryd.underlying89, rfl⟩
instance : TyS Tryd.prog 89 1 := ⟨Ty.size89⟩
instance : TyA Tryd.prog 94 true := ⟨_, Tryd.underlying94, rfl⟩
instance : TyS Tryd.prog 94 3 := ⟨Ty.size94⟩
instance : BldI Tryd.prog 94 [.str [], .str [], .nilifc] [(0, 1), (1, 1), (2, 1)] := .struct (za := #[(.string ⟨#[]⟩), (.string ⟨#[]⟩), .nilIface]) Tryd.underlying94 Ty.zero94 (by kernel_rfl) (by kernel_rfl) (by kernel_rfl) (by kernel_rfl)
instance : TyF Tryd.prog 94 0 9 0 1 false := ⟨_, _, _, Tryd.underlying94, rfl, rfl, rfl, Ty.size9, Tryd.underlying9, rfl⟩
instance : TyF Tryd.prog 94 1 9 1 1 false := ⟨_, _, _, Tryd.underlying94, rfl, rfl, rfl, Ty.size9, Tryd.underlying9, rfl⟩
instance : TyF Tryd.prog 94 2 40 2 1 false := ⟨_, _, _, Tryd.underlying94, rfl, rfl, rfl, Ty.size40, Tryd.underlying40, rfl⟩
instance : TyU Tryd.prog 101 (.pointer 5) := ⟨Tryd.underlying101⟩
instance : TyA Tryd.prog 101 false := ⟨_, Tryd.underlying101, rfl⟩
instance : TyS Tryd.prog 101 1 := ⟨Ty.size101⟩
instance : TyU Tryd.prog 108 (.pointer 110) := ⟨Tryd.underlying108⟩
instance : TyA Tryd.prog 108 false := ⟨_, Tryd.underlying108, rfl⟩
instance : TyS Tryd.prog 108 1 := ⟨Ty.size108⟩
instance : TyA Tryd.prog 110 true := ⟨_, Tryd.underlying110, rfl⟩
instance : TyS Tryd.prog 110 1 := ⟨Ty.size110⟩
instance : BldI Tryd.prog 110 [.str []] [(0, 1)] := .struct (za := #[(.string ⟨#[]⟩)]) Tryd.underlying110 Ty.zero110 (by kernel_rfl) (by kernel_rfl) (by kernel_rfl) (by kernel_rfl)
instance : TyF Tryd.prog 110 0 9 0 1 false := ⟨_, _, _, Tryd.underlying110, rfl, rfl, rfl, Ty.size9, Tryd.underlying9, rfl⟩
instance : TyU Tryd.prog 111 (.array 24 5) := ⟨Tryd.underlying111⟩
instance : TyA Tryd.prog 111 true := ⟨_, Tryd.underlying111, rfl⟩
instance : TyS Tryd.prog 111 24 := ⟨Ty.size111⟩
instance : BldI Tryd.prog 111 [(.int .u8 0), (.int .u8 0), (.int .u8 0), (.int .u8 0), (.int .u8 0), (.int .u8 0), (.int .u8 0), (.int .u8 0), (.int .u8 0), (.int .u8 0), (.int .u8 0), (.int .u8 0), (.int .u8 0), (.int .u8 0), (.int .u8 0), (.int .u8 0), (.int .u8 0), (.int .u8 0), (.int .u8 0), (.int .u8 0), (.int .u8 0), (.int .u8 0), (.int .u8 0), (.int .u8 0)] ((List.range 24).map fun j => (j * 1, 1)) := .array (za := #[(.int .u8 0), (.int .u8 0), (.int .u8 0), (.int .u8 0), (.int .u8 0), (.int .u8 0), (.int .u8 0), (.int .u8 0), (.int .u8 0), (.int .u8 0), (.int .u8 0), (.int .u8 0), (.int .u8 0), (.int .u8 0), (.int .u8 0), (.int .u8 0), (.int .u8 0), (.int .u8 0), (.int .u8 0), (.int .u8 0), (.int .u8 0), (.int .u8 0), (.int .u8 0), (.int .u8 0)]) Tryd.underlying111 Ty.zero111 (by kernel_rfl) Ty.size5 (by kernel_rfl)
instance : TyA Tryd.prog 116 false := ⟨_, Tryd.underlying116, rfl⟩
instance : TyS Tryd.prog 116 1 := ⟨Ty.size116⟩
instance : TyU Tryd.prog 124 (.array 20 89) := ⟨Tryd.underlying124⟩
instance : TyA Tryd.prog 124 true := ⟨_, Tryd.underlying124, rfl⟩
instance : TyS Tryd.prog 124 20 := ⟨Ty.size124⟩
instance : BldI Tryd.prog 124 [(.int .u64 0), (.int .u64 0), (.int .u64 0), (.int .u64 0), (.int .u64 0), (.int .u64 0), (.int .u64 0), (.int .u64 0), (.int .u64 0), (.int .u64 0), (.int .u64 0), (.int .u64 0), (.int .u64 0), (.int .u64 0), (.int .u64 0), (.int .u64 0), (.int .u64 0), (.int .u64 0), (.int .u64 0), (.int .u64 0)] ((List.range 20).map fun j => (j * 1, 1)) := .array (za := #[(.int .u64 0), (.int .u64 0), (.int .u64 0), (.int .u64 0), (.int .u64 0), (.int .u64 0), (.int .u64 0), (.int .u64 0), (.int .u64 0), (.int .u64 0), (.int .u64 0), (.int .u64 0), (.int .u64 0), (.int .u64 0), (.int .u64 0), (.int .u64 0), (.int .u64 0), (.int .u64 0), (.int .u64 0), (.int .u64 0)]) Tryd.underlying124 Ty.zero124 (by kernel_rfl) Ty.size89 (by kernel_rfl)
instance : TyU Tryd.prog 125 (.array 65 5) := ⟨Tryd.underlying125⟩
instance : TyA Tryd.prog 125 true := ⟨_, Tryd.underlying125, rfl⟩
instance : TyS Tryd.prog 125 65 := ⟨Ty.size125⟩
instance : BldI Tryd.prog 125 [(.int .u8 0), (.int .u8 0), (.int .u8 0), (.int .u8 0), (.int .u8 0), (.int .u8 0), (.int .u8 0), (.int .u8 0), (.int .u8 0), (.int .u8 0), (.int .u8 0), (.int .u8 0), (.int .u8 0), (.int .u8 0), (.int .u8 0), (.int .u8 0), (.int .u8 0), (.int .u8 0), (.int .u8 0), (.int .u8 0), (.int .u8 0), (.int .u8 0), (.int .u8 0), (.int .u8 0), (.int .u8 0), (.int .u8 0), (.int .u8 0), (.int .u8 0), (.int .u8 0), (.int .u8 0), (.int .u8 0), (.int .u8 0), (.int .u8 0), (.int .u8 0), (.int .u8 0), (.int .u8 0), (.int .u8 0), (.int .u8 0), (.int .u8 0), (.int .u8 0), (.int .u8 0), (.int .u8 0), (.int .u8 0), (.int .u8 0), (.int .u8 0), (.int .u8 0), (.int .u8 0), (.int .u8 0), (.int .u8 0), (.int .u8 0), (.int .u8 0), (.int .u8 0), (.int .u8 0), (.int .u8 0), (.int .u8 0), (.int .u8 0), (.int .u8 0), (.int .u8 0), (.int .u8 0), (.int .u8 0), (.int .u8 0), (.int .u8 0), (.int .u8 0), (.int .u8 0), (.int .u8 0)] ((List.range 65).map fun j => (j * 1, 1)) := .array (za := #[(.int .u8 0), (.int .u8 0), (.int .u8 0), (.int .u8 0), (.int .u8 0), (.int .u8 0), (.int .u8 0), (.int .u8 0), (.int .u8 0), (.int .u8 0), (.int .u8 0), (.int .u8 0), (.int .u8 0), (.int .u8 0), (.int .u8 0), (.int .u8 0), (.int .u8 0), (.int .u8 0), (.int .u8 0), (.int .u8 0), (.int .u8 0), (.int .u8 0), (.int .u8 0), (.int .u8 0), (.int .u8 0), (.int .u8 0), (.int .u8 0), (.int .u8 0), (.int .u8 0), (.int .u8 0), (.int .u8 0), (.int .u8 0), (.int .u8 0), (.int .u8 0), (.int .u8 0), (.int .u8 0), (.int .u8 0), (.int .u8 0), (.int .u8 0), (.int .u8 0), (.int .u8 0), (.int .u8 0), (.int .u8 0), (.int .u8 0), (.int .u8 0), (.int .u8 0), (.int .u8 0), (.int .u8 0), (.int .u8 0), (.int .u8 0), (.int .u8 0), (.int .u8 0), (.int .u8 0), (.int .u8 0), (.int .u8 0), (.int .u8 0), (.int .u8 0), (.int .u8 0), (.int .u8 0), (.int .u8 0), (.int .u8 0), (.int .u8 0), (.int .u8 0), (.int .u8 0), (.int .u8 0)]) Tryd.underlying125 Ty.zero125 (by kernel_rfl) Ty.size5 (by kernel_rfl)
instance : TyU Tryd.prog 131 (.array 256 5) := ⟨Tryd.underlying131⟩
instance : TyA Tryd.prog 131 true := ⟨_, Tryd.underlying131, rfl⟩
instance : TyS Tryd.prog 131 256 := ⟨Ty.size131⟩
instance : BldI Tryd.prog 131 [(.int .u8 0), (.int .u8 0), (.int .u8 0), (.int .u8 0), (.int .u8 0), (.int .u8 0), (.int .u8 0), (.int .u8 0), (.int .u8 0), (.int .u8 0), (.int .u8 0), (.int .u8 0), (.int .u8 0), (.int .u8 0), (.int .u8 0), (.int .u8 0), (.int .u8 0), (.int .u8 0), (.int .u8 0), (.int .u8 0), (.int .u8 0), (.int .u8 0), (.int .u8 0), (.int .u8 0), (.int .u8 0), (.int .u8 0), (.int .u8 0), (.int .u8 0), (.int .u8 0), (.int .u8 0), (.int .u8 0), (.int .u8 0), (.int .u8 0), (.int .u8 0), (.int .u8 0), (.int .u8 0), (.int .u8 0), (.int .u8 0), (.int .u8 0), (.int .u8 0), (.int .u8 0), (.int .u8 0), (.int .u8 0), (.int .u8 0), (.int .u8 0), (.int .u8 0), (.int .u8 0), (.int .u8 0), (.int .u8 0), (.int .u8 0), (.int .u8 0), (.int .u8 0), (.int .u8 0), (.int .u8 0), (.int .u8 0), (.int .u8 0), (.int .u8 0), (.int .u8 0), (.int .u8 0), (.int .u8 0), (.int .u8 0), (.int .u8 0), (.int .u8 0), (.int .u8 0), (.int .u8 0), (.int .u8 0), (.int .u8 0), (.int .u8 0), (.int .u8 0), (.int .u8 0), (.int .u8 0), (.int .u8 0), (.int .u8 0), (.int .u8 0), (.int .u8 0), (.int .u8 0), (.int .u8 0), (.int .u8 0), (.int .u8 0), (.int .u8 0), (.int .u8 0), (.int .u8 0), (.int .u8 0), (.int .u8 0), (.int .u8 0), (.int .u8 0), (.int .u8 0), (.int .u8 0), (.int .u8 0), (.int .u8 0), (.int .u8 0), (.int .u8 0), (.int .u8 0), (.int .u8 0), (.int .u8 0), (.int .u8 0), (.int .u8 0), (.int .u8 0), (.int .u8 0), (.int .u8 0), (.int .u8 0), (.int .u8 0), (.int .u8 0), (.int .u8 0), (.int .u8 0), (.int .u8 0), (.int .u8 0), (.int .u8 0), (.int .u8 0), (.int .u8 0), (.int .u8 0), (.int .u8 0), (.int .u8 0), (.int .u8 0), (.int .u8 0), (.int .u8 0), (.int .u8 0), (.int .u8 0), (.int .u8 0), (.int .u8 0), (.int .u8 0), (.int .u8 0), (.int .u8 0), (.int .u8 0), (.int .u8 0), (.int .u8 0), (.int .u8 0), (.int .u8 0), (.int .u8 0), (.int .u8 0), (.int .u8 0), (.int .u8 0), (.int .u8 0), (.int .u8 0), (.int .u8 0), (.int .u8 0), (.int .u8 0), (.int .u8 0), (.int .u8 0), (.int .u8 0), (.int .u8 0), (.int .u8 0), (.int .u8 0), (.int .u8 0), (.int .u8 0), (.int .u8 0), (.int .u8 0), (.int .u8 0), (.int .u8 0), (.int .u8 0), (.int .u8 0), (.int .u8 0), (.int .u8 0), (.int .u8 0), (.int .u8 0), (.int .u8 0), (.int .u8 0), (.int .u8 0), (.int .u8 0), (.int .u8 0), (.int .u8 0), (.int .u8 0), (.int .u8 0), (.int .u8 0), (.int .u8 0), (.int .u8 0), (.int .u8 0), (.int .u8 0), (.int .u8 0), (.int .u8 0), (.int .u8 0), (.int .u8 0), (.int .u8 0), (.int .u8 0), (.int .u8 0), (.int .u8 0), (.int .u8 0), (.int .u8 0), (.int .u8 0), (.int .u8 0), (.int .u8 0), (.int .u8 0), (.int .u8 0), (.int .u8 0), (.int .u8 0), (.int .u8 0), (.int .u8 0), (.int .u8 0), (.int .u8 0), (.int .u8 0), (.int .u8 0), (.int .u8 0), (.int .u8 0), (.int .u8 0), (.int .u8 0), (.int .u8 0), (.int .u8 0), (.int .u8 0), (.int .u8 0), (.int .u8 0), (.int .u8 0), (.int .u8 0), (.int .u8 0), (.int .u8 0), (.int .u8 0), (.int .u8 0), (.int .u8 0), (.int .u8 0), (.int .u8 0), (.int .u8 0), (.int .u8 0), (.int .u8 0), (.int .u8 0), (.int .u8 0), (.int .u8 0), (.int .u8 0), (.int .u8 0), (.int .u8 0), (.int .u8 0), (.int .u8 0), (.int .u8 0), (.int .u8 0), (.int .u8 0), (.int .u8 0), (.int .u8 0), (.int .u8 0), (.int .u8 0), (.int .u8 0), (.int .u8 0), (.int .u8 0), (.int .u8 0), (.int .u8 0), (.int .u8 0), (.int .u8 0), (.int .u8 0), (.int .u8 0), (.int .u8 0), (.int .u8 0), (.int .u8 0), (.int .u8 0), (.int .u8 0), (.int .u8 0), (.int .u8 0), (.int .u8 0), (.int .u8 0), (.int .u8 0), (.int .u8 0), (.int .u8 0), (.int .u8 0), (.int .u8 0), (.int .u8 0), (.int .u8 0), (.int .u8 0), (.int .u8 0), (.int .u8 0), (.int .u8 0)] ((List.range 256).map fun j => (j * 1, 1)) := .array (za := #[(.int .u8 0), (.int .u8 0), (.int .u8 0), (.int .u8 0), (.int .u8 0), (.int .u8 0), (.int .u8 0), (.int .u8 0), (.int .u8 0), (.int .u8 0), (.int .u8 0), (.int .u8 0), (.int .u8 0), (.int .u8 0), (.int .u8 0), (.int .u8 0), (.int .u8 0), (.int .u8 0), (.int .u8 0), (.int .u8 0), (.int .u8 0), (.int .u8 0), (.int .u8 0), (.int .u8 0), (.int .u8 0), (.int .u8 0), (.int .u8 0), (.int .u8 0), (.int .u8 0), (.int .u8 0), (.int .u8 0), (.int .u8 0), (.int .u8 0), (.int .u8 0), (.int .u8 0), (.int .u8 0), (.int .u8 0), (.int .u8 0), (.int .u8 0), (.int .u8 0), (.int .u8 0), (.int .u8 0), (.int .u8 0), (.int .u8 0), (.int .u8 0), (.int .u8 0), (.int .u8 0), (.int .u8 0), (.int .u8 0), (.int .u8 0), (.int .u8 0), (.int .u8 0), (.int .u8 0), (.int .u8 0), (.int .u8 0), (.int .u8 0), (.int .u8 0), (.int .u8 0), (.int .u8 0), (.int .u8 0), (.int .u8 0), (.int .u8 0), (.int .u8 0), (.int .u8 0), (.int .u8 0), (.int .u8 0), (.int .u8 0), (.int .u8 0), (.int .u8 0), (.int .u8 0), (.int .u8 0), (.int .u8 0), (.int .u8 0), (.int .u8 0), (.int .u8 0), (.int .u8 0), (.int .u8 0), (.int .u8 0), (.int .u8 0), (.int .u8 0), (.int .u8 0), (.int .u8 0), (.int .u8 0), (.int .u8 0), (.int .u8 0), (.int .u8 0), (.int .u8 0), (.int .u8 0), (.int .u8 0), (.int .u8 0), (.int .u8 0), (.int .u8 0), (.int .u8 0), (.int .u8 0), (.int .u8 0), (.int .u8 0), (.int .u8 0), (.int .u8 0), (.int .u8 0), (.int .u8 0), (.int .u8 0), (.int .u8 0), (.int .u8 0), (.int .u8 0), (.int .u8 0), (.int .u8 0), (.int .u8 0), (.int .u8 0), (.int .u8 0), (.int .u8 0), (.int .u8 0), (.int .u8 0), (.int .u8 0), (.int .u8 0), (.int .u8 0), (.int .u8 0), (.int .u8 0), (.int .u8 0), (.int .u8 0), (.int .u8 0), (.int .u8 0), (.int .u8 0), (.int .u8 0), (.int .u8 0), (.int .u8 0), (.int .u8 0), (.int .u8 0), (.int .u8 0), (.int .u8 0), (.int .u8 0), (.int .u8 0), (.int .u8 0), (.int .u8 0), (.int .u8 0), (.int .u8 0), (.int .u8 0), (.int .u8 0), (.int .u8 0), (.int .u8 0), (.int .u8 0), (.int .u8 0), (.int .u8 0), (.int .u8 0), (.int .u8 0), (.int .u8 0), (.int .u8 0), (.int .u8 0), (.int .u8 0), (.int .u8 0), (.int .u8 0), (.int .u8 0), (.int .u8 0), (.int .u8 0), (.int .u8 0), (.int .u8 0), (.int .u8 0), (.int .u8 0), (.int .u8 0), (.int .u8 0), (.int .u8 0), (.int .u8 0), (.int .u8 0), (.int .u8 0), (.int .u8 0), (.int .u8 0), (.int .u8 0), (.int .u8 0), (.int .u8 0), (.int .u8 0), (.int .u8 0), (.int .u8 0), (.int .u8 0), (.int .u8 0), (.int .u8 0), (.int .u8 0), (.int .u8 0), (.int .u8 0), (.int .u8 0), (.int .u8 0), (.int .u8 0), (.int .u8 0), (.int .u8 0), (.int .u8 0), (.int .u8 0), (.int .u8 0), (.int .u8 0), (.int .u8 0), (.int .u8 0), (.int .u8 0), (.int .u8 0), (.int .u8 0), (.int .u8 0), (.int .u8 0), (.int .u8 0), (.int .u8 0), (.int .u8 0), (.int .u8 0), (.int .u8 0), (.int .u8 0), (.int .u8 0), (.int .u8 0), (.int .u8 0), (.int .u8 0), (.int .u8 0), (.int .u8 0), (.int .u8 0), (.int .u8 0), (.int .u8 0), (.int .u8 0), (.int .u8 0), (.int .u8 0), (.int .u8 0), (.int .u8 0), (.int .u8 0), (.int .u8 0), (.int .u8 0), (.int .u8 0), (.int .u8 0), (.int .u8 0), (.int .u8 0), (.int .u8 0), (.int .u8 0), (.int .u8 0), (.int .u8 0), (.int .u8 0), (.int .u8 0), (.int .u8 0), (.int .u8 0), (.int .u8 0), (.int .u8 0), (.int .u8 0), (.int .u8 0), (.int .u8 0), (.int .u8 0), (.int .u8 0), (.int .u8 0), (.int .u8 0), (.int .u8 0), (.int .u8 0), (.int .u8 0), (.int .u8 0), (.int .u8 0), (.int .u8 0), (.int .u8 0), (.int .u8 0), (.int .u8 0), (.int .u8 0), (.int .u8 0), (.int .u8 0), (.int .u8 0), (.int .u8 0), (.int .u8 0), (.int .u8 0), (.int .u8 0), (.int .u8 0), (.int .u8 0)]) Tryd.underlying131 Ty.zero131 (by kernel_rfl) Ty.size5 (by kernel_rfl)
instance : TyA Tryd.prog 133 true := ⟨_, Tryd.underlying133, rfl⟩
instance : TyS Tryd.prog 133 2 := ⟨Ty.size133⟩
instance : BldI Tryd.prog 133 [(.int .u8 0), (.int .u8 0)] [(0, 1), (1, 1)] := .struct (za := #[(.int .u8 0), (.int .u8 0)]) Tryd.underlying133 Ty.zero133 (by kernel_rfl) (by kernel_rfl) (by kernel_rfl) (by kernel_rfl)
instance : TyF Tryd.prog 133 0 5 0 1 false := ⟨_, _, _, Tryd.underlying133, rfl, rfl, rfl, Ty.size5, Tryd.underlying5, rfl⟩
instance : TyF Tryd.prog 133 1 5 1 1 false := ⟨_, _, _, Tryd.underlying133, rfl, rfl, rfl, Ty.size5, Tryd.underlying5, rfl⟩
instance : TyU Tryd.prog 134 (.array 16 133) := ⟨Tryd.underlying134⟩
instance : TyA Tryd.prog 134 true := ⟨_, Tryd.underlying134, rfl⟩
instance : TyS Tryd.prog 134 32 := ⟨Ty.size134⟩
instance : BldI Tryd.prog 134 [(.int .u8 0), (.int .u8 0), (.int .u8 0), (.int .u8 0), (.int .u8 0), (.int .u8 0), (.int .u8 0), (.int .u8 0), (.int .u8 0), (.int .u8 0), (.int .u8 0), (.int .u8 0), (.int .u8 0), (.int .u8 0), (.int .u8 0), (.int .u8 0), (.int .u8 0), (.int .u8 0), (.int .u8 0), (.int .u8 0), (.int .u8 0), (.int .u8 0), (.int .u8 0), (.int .u8 0), (.int .u8 0), (.int .u8 0), (.int .u8 0), (.int .u8 0), (.int .u8 0), (.int .u8 0), (.int .u8 0), (.int .u8 0)] ((List.range 16).map fun j => (j * 2, 2)) := .array (za := #[(.int .u8 0), (.int .u8 0), (.int .u8 0), (.int .u8 0), (.int .u8 0), (.int .u8 0), (.int .u8 0), (.int .u8 0), (.int .u8 0), (.int .u8 0), (.int .u8 0), (.int .u8 0), (.int .u8 0), (.int .u8 0), (.int .u8 0), (.int .u8 0), (.int .u8 0), (.int .u8 0), (.int .u8 0), (.int .u8 0), (.int .u8 0), (.int .u8 0), (.int .u8 0), (.int .u8 0), (.int .u8 0), (.int .u8 0), (.int .u8 0), (.int .u8 0), (.int .u8 0), (.int .u8 0), (.int .u8 0), (.int .u8 0)]) Tryd.underlying134 Ty.zero134 (by kernel_rfl) Ty.size133 (by kernel_rfl)
instance : TyU Tryd.prog 136 (.array 32 5) := ⟨Tryd.underlying136⟩
instance : TyA Tryd.prog 136 true := ⟨_, Tryd.underlying136, rfl⟩
instance : TyS Tryd.prog 136 32 := ⟨Ty.size136⟩
instance : BldI Tryd.prog 136 [(.int .u8 0), (.int .u8 0), (.int .u8 0), (.int .u8 0), (.int .u8 0), (.int .u8 0), (.int .u8 0), (.int .u8 0), (.int .u8 0), (.int .u8 0), (.int .u8 0), (.int .u8 0), (.int .u8 0), (.int .u8 0), (.int .u8 0), (.int .u8 0), (.int .u8 0), (.int .u8 0), (.int .u8 0), (.int .u8 0), (.int .u8 0), (.int .u8 0), (.int .u8 0), (.int .u8 0), (.int .u8 0), (.int .u8 0), (.int .u8 0), (.int .u8 0), (.int .u8 0), (.int .u8 0), (.int .u8 0), (.int .u8 0)] ((List.range 32).map fun j => (j * 1, 1)) := .array (za := #[(.int .u8 0), (.int .u8 0), (.int .u8 0), (.int .u8 0), (.int .u8 0), (.int .u8 0), (.int .u8 0), (.int .u8 0), (.int .u8 0), (.int .u8 0), (.int .u8 0), (.int .u8 0), (.int .u8 0), (.int .u8 0), (.int .u8 0), (.int .u8 0), (.int .u8 0), (.int .u8 0), (.int .u8 0), (.int .u8 0), (.int .u8 0), (.int .u8 0), (.int .u8 0), (.int .u8 0), (.int .u8 0), (.int .u8 0), (.int .u8 0), (.int .u8 0), (.int .u8 0), (.int .u8 0), (.int .u8 0), (.int .u8 0)]) Tryd.underlying136 Ty.zero136 (by kernel_rfl) Ty.size5 (by kernel_rfl)
instance : TyU Tryd.prog 137 (.array 64 5) := ⟨Tryd.underlying137⟩
instance : TyA Tryd.prog 137 true := ⟨_, Tryd.underlying137, rfl⟩
instance : TyS Tryd.prog 137 64 := ⟨Ty.size137⟩
instance : BldI Tryd.prog 137 [(.int .u8 0), (.int .u8 0), (.int .u8 0), (.int .u8 0), (.int .u8 0), (.int .u8 0), (.int .u8 0), (.int .u8 0), (.int .u8 0), (.int .u8 0), (.int .u8 0), (.int .u8 0), (.int .u8 0), (.int .u8 0), (.int .u8 0), (.int .u8 0), (.int .u8 0), (.int .u8 0), (.int .u8 0), (.int .u8 0), (.int .u8 0), (.int .u8 0), (.int .u8 0), (.int .u8 0), (.int .u8 0), (.int .u8 0), (.int .u8 0), (.int .u8 0), (.int .u8 0), (.int .u8 0), (.int .u8 0), (.int .u8 0), (.int .u8 0), (.int .u8 0), (.int .u8 0), (.int .u8 0), (.int .u8 0), (.int .u8 0), (.int .u8 0), (.int .u8 0), (.int .u8 0), (.int .u8 0), (.int .u8 0), (.int .u8 0), (.int .u8 0), (.int .u8 0), (.int .u8 0), (.int .u8 0), (.int .u8 0), (.int .u8 0), (.int .u8 0), (.int .u8 0), (.int .u8 0), (.int .u8 0), (.int .u8 0), (.int .u8 0), (.int .u8 0), (.int .u8 0), (.int .u8 0), (.int .u8 0), (.int .u8 0), (.int .u8 0), (.int .u8 0), (.int .u8 0)] ((List.range 64).map fun j => (j * 1, 1)) := .array (za := #[(.int .u8 0), (.int .u8 0), (.int .u8 0), (.int .u8 0), (.int .u8 0), (.int .u8 0), (.int .u8 0), (.int .u8 0), (.int .u8 0), (.int .u8 0), (.int .u8 0), (.int .u8 0), (.int .u8 0), (.int .u8 0), (.int .u8 0), (.int .u8 0), (.int .u8 0), (.int .u8 0), (.int .u8 0), (.int .u8 0), (.int .u8 0), (.int .u8 0), (.int .u8 0), (.int .u8 0), (.int .u8 0), (.int .u8 0), (.int .u8 0), (.int .u8 0), (.int .u8 0), (.int .u8 0), (.int .u8 0), (.int .u8 0), (.int .u8 0), (.int .u8 0), (.int .u8 0), (.int .u8 0), (.int .u8 0), (.int .u8 0), (.int .u8 0), (.int .u8 0), (.int .u8 0), (.int .u8 0), (.int .u8 0), (.int .u8 0), (.int .u8 0), (.int .u8 0), (.int .u8 0), (.int .u8 0), (.int .u8 0), (.int .u8 0), (.int .u8 0), (.int .u8 0), (.int .u8 0), (.int .u8 0), (.int .u8 0), (.int .u8 0), (.int .u8 0), (.int .u8 0), (.int .u8 0), (.int .u8 0), (.int .u8 0), (.int .u8 0), (.int .u8 0), (.int .u8 0)]) Tryd.underlying137 Ty.zero137 (by kernel_rfl) Ty.size5 (by kernel_rfl)
instance : AppI Tryd.prog 29 29 1 8 := .of (z := (.int .i64 0)) Tryd.underlying29 (.inr ⟨_, Tryd.underlying29⟩) Ty.size3 (by kernel_rfl) Ty.zero3 rfl (by decide)
instance : AppI Tryd.prog 30 30 8 88 := .of (z := (.agg #[(.int .i64 0), (.string ⟨#[]⟩), (.string ⟨#[]⟩), (.int .i64 0), (.int .i64 0), (.bool false), (.string ⟨#[]⟩), (.int .i64 0)])) Tryd.underlying30 (.inr ⟨_, Tryd.underlying30⟩) Ty.size52 (by kernel_rfl) Ty.zero52 rfl (by decide)
instance : AppI Tryd.prog 28 9 1 1 := .of (z := (.int .u8 0)) Tryd.underlying28 (.inl Tryd.underlying9) Ty.size5 (by kernel_rfl) Ty.zero5 rfl (by decide)
instance : AppI Tryd.prog 28 28 1 1 := .of (z := (.int .u8 0)) Tryd.underlying28 (.inr ⟨_, Tryd.underlying28⟩) Ty.size5 (by kernel_rfl) Ty.zero5 rfl (by decide)
instance : OwnF Tryd.prog 2 := ⟨_, Tryd.func2, by kernel_rfl, by kernel_rfl⟩
instance : OwnF Tryd.prog 3 := ⟨_, Tryd.func3, by kernel_rfl, by kernel_rfl⟩
instance : OwnF Tryd.prog 4 := ⟨_, Tryd.func4, by kernel_rfl, by kernel_rfl⟩
instance : OwnF Tryd.prog 5 := ⟨_, Tryd.func5, by kernel_rfl, by kernel_rfl⟩
instance : OwnF Tryd.prog 6 := ⟨_, Tryd.func6, by kernel_rfl, by kernel_rfl⟩
instance : OwnF Tryd.prog 7 := ⟨_, Tryd.func7, by kernel_rfl, by kernel_rfl⟩
instance : OwnF Tryd.prog 8 := ⟨_, Tryd.func8, by kernel_rfl, by kernel_rfl⟩
instance : OwnF Tryd.prog 9 := ⟨_, Tryd.func9, by kernel_rfl, by kernel_rfl⟩
instance : OwnF Tryd.prog 10 := ⟨_, Tryd.func10, by kernel_rfl, by kernel_rfl⟩
instance : OwnF Tryd.prog 11 := ⟨_, Tryd.func11, by kernel_rfl, by kernel_rfl⟩
instance : OwnF Tryd.prog 12 := ⟨_, Tryd.func12, by kernel_rfl, by kernel_rfl⟩
instance : OwnF Tryd.prog 13 := ⟨_, Tryd.func13, by kernel_rfl, by kernel_rfl⟩
instance : OwnF Tryd.prog 14 := ⟨_, Tryd.func14, by kernel_rfl, by kernel_rfl⟩
instance : OwnF Tryd.prog 15 := ⟨_, Tryd.func15, by kernel_rfl, by kernel_rfl⟩
instance : OwnF Tryd.prog 16 := ⟨_, Tryd.func16, by kernel_rfl, by kernel_rfl⟩
instance : OwnF Tryd.prog 17 := ⟨_, Tryd.func17, by kernel_rfl, by kernel_rfl⟩
instance : OwnF Tryd.prog 18 := ⟨_, Tryd.func18, by kernel_rfl, by kernel_rfl⟩
instance : OwnF Tryd.prog 19 := ⟨_, Tryd.func19, by kernel_rfl, by kernel_rfl⟩
instance : OwnF Tryd.prog 20 := ⟨_, Tryd.func20, by kernel_rfl, by kernel_rfl⟩
instance : OwnF Tryd.prog 21 := ⟨_, Tryd.func21, by kernel_rfl, by kernel_rfl⟩
instance : OwnF Tryd.prog 22 := ⟨_, Tryd.func22, by kernel_rfl, by kernel_rfl⟩
instance : OwnF Tryd.prog 23 := ⟨_, Tryd.func23, by kernel_rfl, by kernel_rfl⟩
instance : OwnF Tryd.prog 24 := ⟨_, Tryd.func24, by kernel_rfl, by kernel_rfl⟩
instance : OwnF Tryd.prog 25 := ⟨_, Tryd.func25, by kernel_rfl, by kernel_rfl⟩
instance : OwnF Tryd.prog 26 := ⟨_, Tryd.func26, by kernel_rfl, by kernel_rfl⟩
instance : OwnF Tryd.prog 27 := ⟨_, Tryd.func27, by kernel_rfl, by kernel_rfl⟩
instance : OwnF Tryd.prog 28 := ⟨_, Tryd.func28, by kernel_rfl, by kernel_rfl⟩
instance : OwnF Tryd.prog 29 := ⟨_, Tryd.func29, by kernel_rfl, by kernel_rfl⟩
instance : OwnF Tryd.prog 30 := ⟨_, Tryd.func30, by kernel_rfl, by kernel_rfl⟩
instance : OwnF Tryd.prog 31 := ⟨_, Tryd.func31, by kernel_rfl, by kernel_rfl⟩
instance : OwnF Tryd.prog 32 := ⟨_, Tryd.func32, by kernel_rfl, by kernel_rfl⟩
instance : OwnF Tryd.prog 33 := ⟨_, Tryd.func33, by kernel_rfl, by kernel_rfl⟩
instance : OwnF Tryd.prog 34 := ⟨_, Tryd.func34, by kernel_rfl, by kernel_rfl⟩
instance : OwnF Tryd.prog 35 := ⟨_, Tryd.func35, by kernel_rfl, by kernel_rfl⟩
instance : OwnF Tryd.prog 36 := ⟨_, Tryd.func36, by kernel_rfl, by kernel_rfl⟩
instance : OwnF Tryd.prog 37 := ⟨_, Tryd.func37, by kernel_rfl, by kernel_rfl⟩
instance : OwnF Tryd.prog 38 := ⟨_, Tryd.func38, by kernel_rfl, by kernel_rfl⟩
instance : OwnF Tryd.prog 39 := ⟨_, Tryd.func39, by kernel_rfl, by kernel_rfl⟩
instance : OwnF Tryd.prog 40 := ⟨_, Tryd.func40, by kernel_rfl, by kernel_rfl⟩
instance : OwnF Tryd.prog 41 := ⟨_, Tryd.func41, by kernel_rfl, by kernel_rfl⟩
instance : OwnF Tryd.prog 42 := ⟨_, Tryd.func42, by kernel_rfl, by kernel_rfl⟩
instance : OwnF Tryd.prog 43 := ⟨_, Tryd.func43, by kernel_rfl, by kernel_rfl⟩
instance : OwnF Tryd.prog 44 := ⟨_, Tryd.func44, by kernel_rfl, by kernel_rfl⟩
instance : OwnF Tryd.prog 45 := ⟨_, Tryd.func45, by kernel_rfl, by kernel_rfl⟩
instance : OwnF Tryd.prog 46 := ⟨_, Tryd.func46, by kernel_rfl, by kernel_rfl⟩
instance : OwnF Tryd.prog 47 := ⟨_, Tryd.func47, by kernel_rfl, by kernel_rfl⟩
instance : OwnF Tryd.prog 48 := ⟨_, Tryd.func48, by kernel_rfl, by kernel_rfl⟩
instance : OwnF Tryd.prog 49 := ⟨_, Tryd.func49, by kernel_rfl, by kernel_rfl⟩
instance : OwnF Tryd.prog 50 := ⟨_, Tryd.func50, by kernel_rfl, by kernel_rfl⟩
instance : OwnF Tryd.prog 51 := ⟨_, Tryd.func51, by kernel_rfl, by kernel_rfl⟩
instance : OwnF Tryd.prog 52 := ⟨_, Tryd.func52, by kernel_rfl, by kernel_rfl⟩
instance : OwnF Tryd.prog 53 := ⟨_, Tryd.func53, by kernel_rfl, by kernel_rfl⟩
instance : OwnF Tryd.prog 54 := ⟨_, Tryd.func54, by kernel_rfl, by kernel_rfl⟩
instance : OwnF Tryd.prog 55 := ⟨_, Tryd.func55, by kernel_rfl, by kernel_rfl⟩
instance : OwnF Tryd.prog 56 := ⟨_, Tryd.func56, by kernel_rfl, by kernel_rfl⟩
instance : OwnF Tryd.prog 57 := ⟨_, Tryd.func57, by kernel_rfl, by kernel_rfl⟩
instance : OwnF Tryd.prog 58 := ⟨_, Tryd.func58, by kernel_rfl, by kernel_rfl⟩
instance : OwnF Tryd.prog 59 := ⟨_, Tryd.func59, by kernel_rfl, by kernel_rfl⟩
instance : OwnF Tryd.prog 60 := ⟨_, Tryd.func60, by kernel_rfl, by kernel_rfl⟩
instance : OwnF Tryd.prog 61 := ⟨_, Tryd.func61, by kernel_rfl, by kernel_rfl⟩
instance : OwnF Tryd.prog 62 := ⟨_, Tryd.func62, by kernel_rfl, by kernel_rfl⟩
instance : OwnF Tryd.prog 63 := ⟨_, Tryd.func63, by kernel_rfl, by kernel_rfl⟩
instance : OwnF Tryd.prog 64 := ⟨_, Tryd.func64, by kernel_rfl, by kernel_rfl⟩
instance : OwnF Tryd.prog 65 := ⟨_, Tryd.func65, by kernel_rfl, by kernel_rfl⟩
instance : OwnF Tryd.prog 66 := ⟨_, Tryd.func66, by kernel_rfl, by kernel_rfl⟩
instance : OwnF Tryd.prog 67 := ⟨_, Tryd.func67, by kernel_rfl, by kernel_rfl⟩
instance : OwnF Tryd.prog 68 := ⟨_, Tryd.func68, by kernel_rfl, by kernel_rfl⟩
instance : OwnF Tryd.prog 69 := ⟨_, Tryd.func69, by kernel_rfl, by kernel_rfl⟩
instance : OwnF Tryd.prog 70 := ⟨_, Tryd.func70, by kernel_rfl, by kernel_rfl⟩
instance : OwnF Tryd.prog 71 := ⟨_, Tryd.func71, by kernel_rfl, by kernel_rfl⟩
instance : OwnF Tryd.prog 72 := ⟨_, Tryd.func72, by kernel_rfl, by kernel_rfl⟩
instance : OwnF Tryd.prog 73 := ⟨_, Tryd.func73, by kernel_rfl, by kernel_rfl⟩
instance : OwnF Tryd.prog 76 := ⟨_, Tryd.func76, by kernel_rfl, by kernel_rfl⟩
instance : OwnF Tryd.prog 77 := ⟨_, Tryd.func77, by kernel_rfl, by kernel_rfl⟩
instance : OwnF Tryd.prog 78 := ⟨_, Tryd.func78, by kernel_rfl, by kernel_rfl⟩
instance : OwnF Tryd.prog 79 := ⟨_, Tryd.func79, by kernel_rfl, by kernel_rfl⟩
instance : OwnF Tryd.prog 80 := ⟨_, Tryd.func80, by kernel_rfl, by kernel_rfl⟩
instance : OwnF Tryd.prog 81 := ⟨_, Tryd.func81, by kernel_rfl, by kernel_rfl⟩
instance : OwnF Tryd.prog 82 := ⟨_, Tryd.func82, by kernel_rfl, by kernel_rfl⟩
instance : OwnF Tryd.prog 83 := ⟨_, Tryd.func83, by kernel_rfl, by kernel_rfl⟩
instance : OwnF Tryd.prog 84 := ⟨_, Tryd.func84, by kernel_rfl, by kernel_rfl⟩
instance : OwnF Tryd.prog 85 := ⟨_, Tryd.func85, by kernel_rfl, by kernel_rfl⟩
instance : OwnF Tryd.prog 86 := ⟨_, Tryd.func86, by kernel_rfl, by kernel_rfl⟩
instance : OwnF Tryd.prog 87 := ⟨_, Tryd.func87, by kernel_rfl, by kernel_rfl⟩
instance : OwnF Tryd.prog 89 := ⟨_, Tryd.func89, by kernel_rfl, by kernel_rfl⟩
instance : OwnF Tryd.prog 90 := ⟨_, Tryd.func90, by kernel_rfl, by kernel_rfl⟩
instance : OwnF Tryd.prog 91 := ⟨_, Tryd.func91, by kernel_rfl, by kernel_rfl⟩
instance : OwnF Tryd.prog 92 := ⟨_, Tryd.func92, by kernel_rfl, by kernel_rfl⟩
instance : OwnF Tryd.prog 93 := ⟨_, Tryd.func93, by kernel_rfl, by kernel_rfl⟩
instance : OwnF Tryd.prog 94 := ⟨_, Tryd.func94, by kernel_rfl, by kernel_rfl⟩
instance : OwnF Tryd.prog 95 := ⟨_, Tryd.func95, by kernel_rfl, by kernel_rfl⟩
instance : OwnF Tryd.prog 97 := ⟨_, Tryd.func97, by kernel_rfl, by kernel_rfl⟩
instance : OwnF Tryd.prog 98 := ⟨_, Tryd.func98, by kernel_rfl, by kernel_rfl⟩
instance : OwnF Tryd.prog 129 := ⟨_, Tryd.func129, by kernel_rfl, by kernel_rfl⟩
end Go.Proofs.YtgliemhhnkhboaaDoor.Ty
end
section
set_option linter.unusedVariables false
set_option linter.unusedSimpArgs false
set_option maxRecDepth 100000
set_option maxHeartbeats 400000
namespace Go.Proofs.YtgliemhhnkhboaaDoor
open Go.Al Go.RowKit
def numB (n : Nat) : List UInt8 := if n < 128 then [UInt8.ofNat n] else UInt8.ofNat (128 + n % 128) :: numB (n / 128)
termination_by n
def clampN (n : Int) : Nat := (max 0 (min n 9007199254740992)).toNat
def num (n : Int) : List UInt8 := numB (clampN n)
theorem byteOf_nat (n : Nat) : Al.byteOf n = UInt8.ofNat n := by
  simp only [Al.byteOf]
  have : ((n : Int) % 256).toNat = n % 256 := by omega
  rw [this]
  apply UInt8.toNat_inj.1
  simp
def txt (s : List UInt8) : List UInt8 := num s.length ++ s
end Go.Proofs.YtgliemhhnkhboaaDoor
end
section
set_option linter.unusedVariables false
set_option linter.unusedSimpArgs false
set_option maxRecDepth 100000
set_option maxHeartbeats 400000
namespace Go.Proofs.YtgliemhhnkhboaaDoor
open Go.Al Go.RowKit
structure Laid (w : World) : Prop where
  tab : Lib.TabIs Tryd.prog w "internal/strconv.uint64pow10" .u64 Lib.pow10Tab
  syn : ∃ t p, w.cell? ⟨0, 0, none⟩ = some (.iface t p)
  rng : ∃ t p, w.cell? ⟨1, 0, none⟩ = some (.iface t p)
theorem laid_below {w0 w : World} (h : Laid w0) (hb : Below w0.heap.size w0 w) : Laid w :=
  ⟨Lib.tabBelow_of_tabIs h.tab w hb, h.syn.imp fun _ h => h.imp fun _ h => cell_below hb (Nat.le_refl _) h, h.rng.imp fun _ h => h.imp fun _ h => cell_below hb (Nat.le_refl _) h⟩
instance : OwnF Tryd.prog 27 := ⟨_, Tryd.func27, by kernel_rfl, by kernel_rfl⟩
instance : OwnF Tryd.prog 28 := ⟨_, Tryd.func28, by kernel_rfl, by kernel_rfl⟩
instance : OwnF Tryd.prog 13 := ⟨_, Tryd.func13, by kernel_rfl, by kernel_rfl⟩
theorem itoa_any (w0 : Base) (hL : Laid w0) (n : Int) (h0 : -9223372036854775808 ≤ n) (h1 : n ≤ 9223372036854775807) : CallP Tryd.prog w0 27 [.int .i64 n] (.str (Lib.itoa n)) := .told fun G w vs hb hr => by
  cases hr with
  | cons h t =>
    cases t
    cases h
    exact ⟨_, fun w' => .str _, (Tryd.strconv_Itoa n h0 h1 w (laid_below hL hb).tab).mono fun e w' ⟨he, k, os, hw⟩ => ⟨he, hw ▸ Lib.below_grow _ w (Nat.le_refl _) k os⟩⟩
theorem repeat_any (w0 : Base) (s : List UInt8) (c : Nat) (hc : c ≤ 1000000) (hs : s.length ≤ 1000000) : CallP Tryd.prog w0 28 [.str s, .int .i64 c] (.str (Lib.repeatL s c)) := .told fun G w vs hb hr => by
  cases hr with
  | cons h t =>
    cases t with
    | cons h2 t =>
    cases t
    cases h
    cases h2
    refine ⟨_, fun w' => .str _, (Tryd.strings_Repeat ⟨s.toArray⟩ c w (by omega) ?_).mono fun e w' ⟨he, hw⟩ => ⟨he, hw⟩⟩
    have : (⟨s.toArray⟩ : ByteArray).size = s.length := by simp [ByteArray.size]
    rw [this]
    have := Nat.mul_le_mul hs hc
    omega
def goAtoi (l : List UInt8) : Int × Bool := match Lib.atoiAll l with
  | .ok v => (v, true)
  | .range => (Lib.atoiSat l, false)
  | _ => (0, false)
def eErr : Bool → AV
  | true => .nilifc
  | false => .ifc 70 .und
theorem bytesWorld_le (w : World) (t : TypeId) (s : ByteArray) (w' : World) (h : w' = w ∨ ∃ u, w' = Lib.bytesWorld w t u) : Below w.heap.size w w' := by
  rcases h with rfl | ⟨u, rfl⟩
  · exact .refl _ _
  · exact Lib.bytesWorld_below w _ _
theorem goAtoi_any (w0 : Base) (hL : Laid w0) (s : List UInt8) (hs : s.length ≤ 1000000000000) : CallP Tryd.prog w0 13 [.str s] (.tup [.int .i64 (goAtoi s).1, eErr (goAtoi s).2]) := .tells fun G w vs hb hr => by
  cases hr with
  | cons h1 t =>
    cases t
    cases h1
    have hL' := laid_below hL hb
    have hsz : (⟨s.toArray⟩ : ByteArray).size = s.length := by simp [ByteArray.size]
    have hl : (⟨s.toArray⟩ : ByteArray).data.toList = s := by simp
    unfold goAtoi
    rcases h : Lib.atoiAll s with v | _ | _
    · refine (Tryd.strconv_Atoi_ok ⟨s.toArray⟩ (by omega) v (by rw [hl]; exact h) w).mono fun e w' ⟨he, hw⟩ => ⟨_, he, .tup (.cons (.int _ _) (.cons .nilifc .nil)), bytesWorld_le w _ ⟨s.toArray⟩ w' hw⟩
    · obtain ⟨ti, p, hc⟩ := hL'.syn
      refine (Any.strconv_Atoi_syntax Tryd.laysC172 ⟨s.toArray⟩ (by omega) (by rw [hl]; exact h) _ w hc (.inr ⟨ti, p, rfl⟩)).mono fun e w' ⟨m, he, _, _, hw⟩ => ⟨_, he, .tup (.cons (.int _ _) (.cons (.ifc (.und _)) .nil)), hw⟩
    · obtain ⟨ti, p, hc⟩ := hL'.rng
      refine (Tryd.strconv_Atoi_range ⟨s.toArray⟩ (by omega) (by rw [hl]; exact h) _ w hc (.inr ⟨ti, p, rfl⟩)).mono fun e w' ⟨m, he, _, _, hw⟩ => ⟨_, he, ?_, hw⟩
      rw [hl]
      exact .tup (.cons (.int _ _) (.cons (.ifc (.und _)) .nil))
theorem goAtoi_ok {s : List UInt8} {n : Int} (hs : s.length ≤ 18) (h : Lib.atoi s = some n) : goAtoi s = (n, true) := by
  rw [goAtoi, Lib.atoiAll_short s hs, h]; rfl
theorem cl_itoa (n : Int) : Lib.itoa (max 0 (min n 9999999999)) = Lib.decDigits (cl n) := by
  unfold Lib.itoa cl
  rw [if_neg (by omega)]
theorem rep_one (c : Nat) : Lib.repeatL [48] c = List.replicate c 48 := by
  have := Lib.repeatL_replicate 48 1 c
  simpa using this
theorem itoaC_any (w0 : Base) (hL : Laid w0) (n : Int) : CallP Tryd.prog w0 27 [.int .i64 (max 0 (min n 9999999999))] (.str (Lib.decDigits (cl n))) := by
  rw [← cl_itoa]
  exact itoa_any w0 hL _ (by omega) (by omega)
theorem repeatC_any (w0 : Base) (a : Nat) (ha : a ≤ 10) : CallP Tryd.prog w0 28 [.str [48], .int .i64 (10 - (a : Int))] (.str (List.replicate (10 - a) 48)) := by
  rw [← rep_one]
  have : (10 - (a : Int)) = ((10 - a : Nat) : Int) := by omega
  rw [this]
  exact repeat_any w0 [48] (10 - a) (by omega) (by simp)
theorem number_any (w0 : Base) (hL : Laid w0) (n : Int) : CallP Tryd.prog w0 14 [.int .i64 n] (.str (dN 10 (cl n))) := by
  refine CallP.start Tryd.func14 rfl Tryd.ntmps14 (by simp) fun σ Q hQ => ?_
  obtain ⟨h1, h2⟩ := dec_pad 9 (cl n) (cl_lt n)
  refine W.seq ?_; refine W.regionL (by decide +kernel) rfl ?_; apply r_op; exact rfl; exact rfl; apply a_assign; (conv => (lhs; whnf)); (with_reducible refine runs_done ?_); refine W.seq ?_; refine W.regionL (by decide +kernel) rfl ?_; apply r_op; exact rfl; exact rfl; apply a_move; (conv => (lhs; whnf)); apply r_op; exact rfl; exact rfl; apply g_call; exact a_min rfl rfl; apply r_op; exact rfl
  exact rfl; apply g_call; exact a_max rfl rfl; apply r_callP; exact rfl; exact rfl; exact rfl; exact rfl; exact rfl; infer_instance; exact itoaC_any w0 hL n; apply r_op; exact rfl; exact rfl; apply a_assign; (conv => (lhs; whnf)); (with_reducible refine runs_done ?_); refine W.seq ?_; refine W.regionL (by decide +kernel) rfl ?_; apply r_op; exact rfl; exact rfl; apply a_move; (conv => (lhs; whnf))
  apply r_op; exact rfl; exact rfl; apply g_call; exact a_len_str rfl; apply r_op; exact rfl; exact rfl; apply g_binOp; exact a_sub64 rfl rfl (by omega); apply r_callP; exact rfl; exact rfl; exact rfl; exact rfl; exact rfl; infer_instance; exact repeatC_any w0 _ h1; apply r_op; exact rfl; exact rfl; apply a_move; (conv => (lhs; whnf)); apply r_op; exact rfl; exact rfl; apply g_binOp
  exact a_addS rfl rfl (by simp only [List.length_replicate, List.length_append, List.length_cons, List.length_nil]; omega); apply r_op; exact rfl; exact rfl; apply a_assign; (conv => (lhs; whnf)); (with_reducible refine runs_done ?_); refine W.ret ?_; show Q Exit.ret _ _; refine post_q hQ (by apply res_tmp; exact rfl; exact res_nil) (.inl rfl) (by exact .refl _) ?_; (conv => (lhs; whnf))
  rw [h2]
theorem key_byte {v : Nat} (hv : v < 10) : Al.byteOf (48 + ((Al.byteOf (max ((v : Int) % 10) (-((v : Int) % 10)))).toNat : Int)) = UInt8.ofNat (48 + v) := by
  have e : max ((v : Int) % 10) (-((v : Int) % 10)) = (v : Nat) := by omega
  rw [e, byteOf_toNat v (by omega)]
  show Al.byteOf ((48 + v : Nat) : Int) = _
  exact byteOf_nat _
theorem keyS_any (w0 : Base) (hL : Laid w0) (v : Nat) (hv : v < 10) (t : UInt8) (id seq : Int) : CallP Tryd.prog w0 6 [.int .i64 v, .int .u8 t.toNat, .int .i64 id, .int .i64 seq] (.str (rkey v t id seq)) := by
  refine CallP.start Tryd.func6 rfl Tryd.ntmps6 (by simp) fun σ Q hQ => ?_
  have hl := dN_length 10 (cl id)
  have hl2 := dN_length 10 (cl seq)
  refine W.seq ?_; refine W.regionL (by decide +kernel) rfl ?_; apply r_op; exact rfl; exact rfl; apply a_assign; (conv => (lhs; whnf)); (with_reducible refine runs_done ?_); refine W.seq ?_; refine W.regionDK 1 [] Ty.mixed (by decide +kernel) (by decide +kernel) rfl ?_; apply r_op; exact rfl; exact rfl; apply a_move; (conv => (lhs; whnf)); apply r_op; exact rfl; exact rfl; apply g_binOp
  exact a_rem rfl rfl (by omega); apply r_op; exact rfl; exact rfl; apply a_move; (conv => (lhs; whnf)); apply r_op; exact rfl; exact rfl; apply g_binOp; exact a_rem rfl rfl (by omega); apply r_op; exact rfl; exact rfl; apply g_unOp; exact a_neg64 rfl (by omega); apply r_op; exact rfl; exact rfl; apply g_call; exact a_max rfl rfl; apply r_op; exact rfl; exact rfl; apply g_convert; exact a_convB rfl
  apply r_op; exact rfl; exact rfl; apply g_binOp; exact a_u8add rfl rfl; apply r_op; exact rfl; exact rfl; apply a_move; (conv => (lhs; whnf)); apply r_op; exact rfl; exact rfl; apply g_buildSlice; apply a_buildN; apply EvP.cons (by (conv => (lhs; whnf))); apply EvP.cons (by (conv => (lhs; whnf))); exact EvP.nil; (conv => (lhs; whnf)); exact rfl; exact rfl; decide; apply r_op; exact rfl; exact rfl
  apply g_convert; exact a_bytesStrX rfl (by apply toB_cons; apply toB_cons; exact toB_nil); apply r_op; exact rfl; exact rfl; apply a_move; (conv => (lhs; whnf)); apply r_callP; exact rfl; exact rfl; exact rfl; exact rfl; exact rfl; infer_instance; exact number_any w0 hL _; apply r_op; exact rfl; exact rfl; apply g_binOp
  exact a_addS rfl rfl (by simp only [List.length_replicate, List.length_append, List.length_cons, List.length_nil]; omega); apply r_op; exact rfl; exact rfl; apply a_move; (conv => (lhs; whnf)); apply r_callP; exact rfl; exact rfl; exact rfl; exact rfl; exact rfl; infer_instance; exact number_any w0 hL _; apply r_op; exact rfl; exact rfl; apply g_binOp
  exact a_addS rfl rfl (by simp only [List.length_replicate, List.length_append, List.length_cons, List.length_nil]; omega); apply r_op; exact rfl; exact rfl; apply a_assign; (conv => (lhs; whnf)); (with_reducible refine runs_done ?_); refine W.ret ?_; show Q Exit.ret _ _; refine post_q hQ (by apply res_tmp; exact rfl; exact res_nil) (.inl rfl) (by exact .refl _) ?_; (conv => (lhs; whnf))
  rw [key_byte hv]; rfl
end Go.Proofs.YtgliemhhnkhboaaDoor
end
section
set_option linter.unusedVariables false
set_option maxRecDepth 100000
namespace Go.Proofs.YtgliemhhnkhboaaDoor.Ty
open Go.Al
theorem ti2 : TI.ok Tryd.prog 2 ⟨.int .i64, 1⟩ := ⟨⟨Tryd.underlying2⟩, ⟨⟨Ty.size2⟩, by kernel_rfl⟩⟩
theorem ti3 : TI.ok Tryd.prog 3 ⟨.int .i64, 1⟩ := ⟨⟨Tryd.underlying3⟩, ⟨⟨Ty.size3⟩, by kernel_rfl⟩⟩
theorem ti4 : TI.ok Tryd.prog 4 ⟨.bool, 1⟩ := ⟨⟨Tryd.underlying4⟩, ⟨⟨Ty.size4⟩, by kernel_rfl⟩⟩
theorem ti5 : TI.ok Tryd.prog 5 ⟨.int .u8, 1⟩ := ⟨⟨Tryd.underlying5⟩, ⟨⟨Ty.size5⟩, by kernel_rfl⟩⟩
theorem ti9 : TI.ok Tryd.prog 9 ⟨.str, 1⟩ := ⟨⟨Tryd.underlying9⟩, ⟨⟨Ty.size9⟩, by kernel_rfl⟩⟩
theorem ti21 : TI.ok Tryd.prog 21 ⟨.int .i32, 1⟩ := ⟨⟨Tryd.underlying21⟩, ⟨⟨Ty.size21⟩, by kernel_rfl⟩⟩
theorem ti22 : TI.ok Tryd.prog 22 ⟨.int .u32, 1⟩ := ⟨⟨Tryd.underlying22⟩, ⟨⟨Ty.size22⟩, by kernel_rfl⟩⟩
theorem ti28 : TI.ok Tryd.prog 28 ⟨.slc 5 1 true, 1⟩ := ⟨⟨⟨Tryd.underlying28⟩, ⟨⟨Ty.size28⟩, by kernel_rfl⟩⟩, ⟨Ty.size5⟩, (fun _ => ⟨Tryd.underlying5⟩), inferInstance⟩
theorem ti29 : TI.ok Tryd.prog 29 ⟨.slc 3 1 false, 1⟩ := ⟨⟨⟨Tryd.underlying29⟩, ⟨⟨Ty.size29⟩, by kernel_rfl⟩⟩, ⟨Ty.size3⟩, (fun h => Bool.noConfusion h), inferInstance⟩
theorem ti30 : TI.ok Tryd.prog 30 ⟨.slc 52 8 false, 1⟩ := ⟨⟨⟨Tryd.underlying30⟩, ⟨⟨Ty.size30⟩, by kernel_rfl⟩⟩, ⟨Ty.size52⟩, (fun h => Bool.noConfusion h), inferInstance⟩
theorem ti32 : TI.ok Tryd.prog 32 ⟨.struct [(0, 1, false), (1, 1, false), (2, 1, false), (3, 1, false), (4, 1, false), (5, 1, false), (6, 1, false), (7, 1, false), (8, 1, false), (9, 1, false)] [(.int .i64 0), .str [], .str [], .str [], (.int .i64 0), (.int .i64 0), (.int .i64 0), .nils, .nils, .str []], 10⟩ := ⟨⟨⟨_, Tryd.underlying32, rfl⟩, ⟨Ty.size32⟩⟩, ⟨⟨3, inferInstanceAs (TyF Tryd.prog 32 0 3 0 1 false)⟩, ⟨⟨9, inferInstanceAs (TyF Tryd.prog 32 1 9 1 1 false)⟩, ⟨⟨9, inferInstanceAs (TyF Tryd.prog 32 2 9 2 1 false)⟩, ⟨⟨9, inferInstanceAs (TyF Tryd.prog 32 3 9 3 1 false)⟩, ⟨⟨3, inferInstanceAs (TyF Tryd.prog 32 4 3 4 1 false)⟩, ⟨⟨3, inferInstanceAs (TyF Tryd.prog 32 5 3 5 1 false)⟩, ⟨⟨3, inferInstanceAs (TyF Tryd.prog 32 6 3 6 1 false)⟩, ⟨⟨29, inferInstanceAs (TyF Tryd.prog 32 7 29 7 1 false)⟩, ⟨⟨30, inferInstanceAs (TyF Tryd.prog 32 8 30 8 1 false)⟩, ⟨⟨9, inferInstanceAs (TyF Tryd.prog 32 9 9 9 1 false)⟩, trivial⟩⟩⟩⟩⟩⟩⟩⟩⟩⟩, by kernel_rfl, .struct Tryd.underlying32 Ty.zero32 rfl rfl rfl rfl⟩
theorem ti40 : TI.ok Tryd.prog 40 ⟨.ifc, 1⟩ := ⟨⟨_, Tryd.underlying40⟩, ⟨⟨Ty.size40⟩, by kernel_rfl⟩⟩
theorem ti45 : TI.ok Tryd.prog 45 ⟨.slc 32 10 false, 1⟩ := ⟨⟨⟨Tryd.underlying45⟩, ⟨⟨Ty.size45⟩, by kernel_rfl⟩⟩, ⟨Ty.size32⟩, (fun h => Bool.noConfusion h), inferInstance⟩
theorem ti47 : TI.ok Tryd.prog 47 ⟨.struct [(0, 1, false), (1, 1, false), (2, 1, false), (3, 1, false)] [(.int .i64 0), (.int .i64 0), (.int .i64 0), .nils], 4⟩ := ⟨⟨⟨_, Tryd.underlying47, rfl⟩, ⟨Ty.size47⟩⟩, ⟨⟨3, inferInstanceAs (TyF Tryd.prog 47 0 3 0 1 false)⟩, ⟨⟨3, inferInstanceAs (TyF Tryd.prog 47 1 3 1 1 false)⟩, ⟨⟨3, inferInstanceAs (TyF Tryd.prog 47 2 3 2 1 false)⟩, ⟨⟨45, inferInstanceAs (TyF Tryd.prog 47 3 45 3 1 false)⟩, trivial⟩⟩⟩⟩, by kernel_rfl, .struct Tryd.underlying47 Ty.zero47 rfl rfl rfl rfl⟩
theorem ti50 : TI.ok Tryd.prog 50 ⟨.slc 9 1 false, 1⟩ := ⟨⟨⟨Tryd.underlying50⟩, ⟨⟨Ty.size50⟩, by kernel_rfl⟩⟩, ⟨Ty.size9⟩, (fun h => Bool.noConfusion h), inferInstance⟩
theorem ti52 : TI.ok Tryd.prog 52 ⟨.struct [(0, 1, false), (1, 1, false), (2, 1, false), (3, 1, false), (4, 1, false), (5, 1, false), (6, 1, false), (7, 1, false)] [(.int .i64 0), .str [], .str [], (.int .i64 0), (.int .i64 0), (.bool false), .str [], (.int .i64 0)], 8⟩ := ⟨⟨⟨_, Tryd.underlying52, rfl⟩, ⟨Ty.size52⟩⟩, ⟨⟨3, inferInstanceAs (TyF Tryd.prog 52 0 3 0 1 false)⟩, ⟨⟨9, inferInstanceAs (TyF Tryd.prog 52 1 9 1 1 false)⟩, ⟨⟨9, inferInstanceAs (TyF Tryd.prog 52 2 9 2 1 false)⟩, ⟨⟨3, inferInstanceAs (TyF Tryd.prog 52 3 3 3 1 false)⟩, ⟨⟨3, inferInstanceAs (TyF Tryd.prog 52 4 3 4 1 false)⟩, ⟨⟨4, inferInstanceAs (TyF Tryd.prog 52 5 4 5 1 false)⟩, ⟨⟨9, inferInstanceAs (TyF Tryd.prog 52 6 9 6 1 false)⟩, ⟨⟨3, inferInstanceAs (TyF Tryd.prog 52 7 3 7 1 false)⟩, trivial⟩⟩⟩⟩⟩⟩⟩⟩, by kernel_rfl, .struct Tryd.underlying52 Ty.zero52 rfl rfl rfl rfl⟩
theorem ti55 : TI.ok Tryd.prog 55 ⟨.fn, 1⟩ := ⟨⟨_, _, _, ⟨Tryd.underlying55⟩⟩, ⟨⟨Ty.size55⟩, by kernel_rfl⟩⟩
theorem ti67 : TI.ok Tryd.prog 67 ⟨.int .i64, 1⟩ := ⟨⟨Tryd.underlying67⟩, ⟨⟨Ty.size67⟩, by kernel_rfl⟩⟩
theorem ti70 : TI.ok Tryd.prog 70 ⟨.ptr, 1⟩ := ⟨⟨_, ⟨Tryd.underlying70⟩⟩, ⟨⟨Ty.size70⟩, by kernel_rfl⟩⟩
theorem ti73 : TI.ok Tryd.prog 73 ⟨.int .u64, 1⟩ := ⟨⟨Tryd.underlying73⟩, ⟨⟨Ty.size73⟩, by kernel_rfl⟩⟩
theorem ti77 : TI.ok Tryd.prog 77 ⟨.ptr, 1⟩ := ⟨⟨_, ⟨Tryd.underlying77⟩⟩, ⟨⟨Ty.size77⟩, by kernel_rfl⟩⟩
theorem ti79 : TI.ok Tryd.prog 79 ⟨.struct [(0, 1, false), (1, 1, false)] [.nilp, .nils], 2⟩ := ⟨⟨⟨_, Tryd.underlying79, rfl⟩, ⟨Ty.size79⟩⟩, ⟨⟨77, inferInstanceAs (TyF Tryd.prog 79 0 77 0 1 false)⟩, ⟨⟨28, inferInstanceAs (TyF Tryd.prog 79 1 28 1 1 false)⟩, trivial⟩⟩, by kernel_rfl, .struct Tryd.underlying79 Ty.zero79 rfl rfl rfl rfl⟩
theorem ti89 : TI.ok Tryd.prog 89 ⟨.int .u64, 1⟩ := ⟨⟨Tryd.underlying89⟩, ⟨⟨Ty.size89⟩, by kernel_rfl⟩⟩
theorem ti94 : TI.ok Tryd.prog 94 ⟨.struct [(0, 1, false), (1, 1, false), (2, 1, false)] [.str [], .str [], .nilifc], 3⟩ := ⟨⟨⟨_, Tryd.underlying94, rfl⟩, ⟨Ty.size94⟩⟩, ⟨⟨9, inferInstanceAs (TyF Tryd.prog 94 0 9 0 1 false)⟩, ⟨⟨9, inferInstanceAs (TyF Tryd.prog 94 1 9 1 1 false)⟩, ⟨⟨40, inferInstanceAs (TyF Tryd.prog 94 2 40 2 1 false)⟩, trivial⟩⟩⟩, by kernel_rfl, .struct Tryd.underlying94 Ty.zero94 rfl rfl rfl rfl⟩
theorem ti101 : TI.ok Tryd.prog 101 ⟨.ptr, 1⟩ := ⟨⟨_, ⟨Tryd.underlying101⟩⟩, ⟨⟨Ty.size101⟩, by kernel_rfl⟩⟩
theorem ti108 : TI.ok Tryd.prog 108 ⟨.ptr, 1⟩ := ⟨⟨_, ⟨Tryd.underlying108⟩⟩, ⟨⟨Ty.size108⟩, by kernel_rfl⟩⟩
theorem ti110 : TI.ok Tryd.prog 110 ⟨.struct [(0, 1, false)] [.str []], 1⟩ := ⟨⟨⟨_, Tryd.underlying110, rfl⟩, ⟨Ty.size110⟩⟩, ⟨⟨9, inferInstanceAs (TyF Tryd.prog 110 0 9 0 1 false)⟩, trivial⟩, by kernel_rfl, .struct Tryd.underlying110 Ty.zero110 rfl rfl rfl rfl⟩
theorem ti111 : TI.ok Tryd.prog 111 ⟨.arr 24 5 1 false [(.int .u8 0), (.int .u8 0), (.int .u8 0), (.int .u8 0), (.int .u8 0), (.int .u8 0), (.int .u8 0), (.int .u8 0), (.int .u8 0), (.int .u8 0), (.int .u8 0), (.int .u8 0), (.int .u8 0), (.int .u8 0), (.int .u8 0), (.int .u8 0), (.int .u8 0), (.int .u8 0), (.int .u8 0), (.int .u8 0), (.int .u8 0), (.int .u8 0), (.int .u8 0), (.int .u8 0)], 24⟩ := ⟨⟨⟨Tryd.underlying111⟩, ⟨Ty.size111⟩⟩, ⟨Ty.size5⟩, ⟨_, Tryd.underlying5, rfl⟩, by kernel_rfl, .array Tryd.underlying111 Ty.zero111 rfl Ty.size5 rfl⟩
theorem ti124 : TI.ok Tryd.prog 124 ⟨.arr 20 89 1 false [(.int .u64 0), (.int .u64 0), (.int .u64 0), (.int .u64 0), (.int .u64 0), (.int .u64 0), (.int .u64 0), (.int .u64 0), (.int .u64 0), (.int .u64 0), (.int .u64 0), (.int .u64 0), (.int .u64 0), (.int .u64 0), (.int .u64 0), (.int .u64 0), (.int .u64 0), (.int .u64 0), (.int .u64 0), (.int .u64 0)], 20⟩ := ⟨⟨⟨Tryd.underlying124⟩, ⟨Ty.size124⟩⟩, ⟨Ty.size89⟩, ⟨_, Tryd.underlying89, rfl⟩, by kernel_rfl, .array Tryd.underlying124 Ty.zero124 rfl Ty.size89 rfl⟩
theorem ti125 : TI.ok Tryd.prog 125 ⟨.arr 65 5 1 false [(.int .u8 0), (.int .u8 0), (.int .u8 0), (.int .u8 0), (.int .u8 0), (.int .u8 0), (.int .u8 0), (.int .u8 0), (.int .u8 0), (.int .u8 0), (.int .u8 0), (.int .u8 0), (.int .u8 0), (.int .u8 0), (.int .u8 0), (.int .u8 0), (.int .u8 0), (.int .u8 0), (.int .u8 0), (.int .u8 0), (.int .u8 0), (.int .u8 0), (.int .u8 0), (.int .u8 0), (.int .u8 0), (.int .u8 0), (.int .u8 0), (.int .u8 0), (.int .u8 0), (.int .u8 0), (.int .u8 0), (.int .u8 0), (.int .u8 0), (.int .u8 0), (.int .u8 0), (.int .u8 0), (.int .u8 0), (.int .u8 0), (.int .u8 0), (.int .u8 0), (.int .u8 0), (.int .u8 0), (.int .u8 0), (.int .u8 0), (.int .u8 0), (.int .u8 0), (.int .u8 0), (.int .u8 0), (.int .u8 0), (.int .u8 0), (.int .u8 0), (.int .u8 0), (.int .u8 0), (.int .u8 0), (.int .u8 0), (.int .u8 0), (.int .u8 0), (.int .u8 0), (.int .u8 0), (.int .u8 0), (.int .u8 0), (.int .u8 0), (.int .u8 0), (.int .u8 0), (.int .u8 0)], 65⟩ := ⟨⟨⟨Tryd.underlying125⟩, ⟨Ty.size125⟩⟩, ⟨Ty.size5⟩, ⟨_, Tryd.underlying5, rfl⟩, by kernel_rfl, .array Tryd.underlying125 Ty.zero125 rfl Ty.size5 rfl⟩
theorem ti131 : TI.ok Tryd.prog 131 ⟨.arr 256 5 1 false [(.int .u8 0), (.int .u8 0), (.int .u8 0), (.int .u8 0), (.int .u8 0), (.int .u8 0), (.int .u8 0), (.int .u8 0), (.int .u8 0), (.int .u8 0), (.int .u8 0), (.int .u8 0), (.int .u8 0), (.int .u8 0), (.int .u8 0), (.int .u8 0), (.int .u8 0), (.int .u8 0), (.int .u8 0), (.int .u8 0), (.int .u8 0), (.int .u8 0), (.int .u8 0), (.int .u8 0), (.int .u8 0), (.int .u8 0), (.int .u8 0), (.int .u8 0), (.int .u8 0), (.int .u8 0), (.int .u8 0), (.int .u8 0), (.int .u8 0), (.int .u8 0), (.int .u8 0), (.int .u8 0), (.int .u8 0), (.int .u8 0), (.int .u8 0), (.int .u8 0), (.int .u8 0), (.int .u8 0), (.int .u8 0), (.int .u8 0), (.int .u8 0), (.int .u8 0), (.int .u8 0), (.int .u8 0), (.int .u8 0), (.int .u8 0), (.int .u8 0), (.int .u8 0), (.int .u8 0), (.int .u8 0), (.int .u8 0), (.int .u8 0), (.int .u8 0), (.int .u8 0), (.int .u8 0), (.int .u8 0), (.int .u8 0), (.int .u8 0), (.int .u8 0), (.int .u8 0), (.int .u8 0), (.int .u8 0), (.int .u8 0), (.int .u8 0), (.int .u8 0), (.int .u8 0), (.int .u8 0), (.int .u8 0), (.int .u8 0), (.int .u8 0), (.int .u8 0), (.int .u8 0), (.int .u8 0), (.int .u8 0), (.int .u8 0), (.int .u8 0), (.int .u8 0), (.int .u8 0), (.int .u8 0), (.int .u8 0), (.int .u8 0), (.int .u8 0), (.int .u8 0), (.int .u8 0), (.int .u8 0), (.int .u8 0), (.int .u8 0), (.int .u8 0), (.int .u8 0), (.int .u8 0), (.int .u8 0), (.int .u8 0), (.int .u8 0), (.int .u8 0), (.int .u8 0), (.int .u8 0), (.int .u8 0), (.int .u8 0), (.int .u8 0), (.int .u8 0), (.int .u8 0), (.int .u8 0), (.int .u8 0), (.int .u8 0), (.int .u8 0), (.int .u8 0), (.int .u8 0), (.int .u8 0), (.int .u8 0), (.int .u8 0), (.int .u8 0), (.int .u8 0), (.int .u8 0), (.int .u8 0), (.int .u8 0), (.int .u8 0), (.int .u8 0), (.int .u8 0), (.int .u8 0), (.int .u8 0), (.int .u8 0), (.int .u8 0), (.int .u8 0), (.int .u8 0), (.int .u8 0), (.int .u8 0), (.int .u8 0), (.int .u8 0), (.int .u8 0), (.int .u8 0), (.int .u8 0), (.int .u8 0), (.int .u8 0), (.int .u8 0), (.int .u8 0), (.int .u8 0), (.int .u8 0), (.int .u8 0), (.int .u8 0), (.int .u8 0), (.int .u8 0), (.int .u8 0), (.int .u8 0), (.int .u8 0), (.int .u8 0), (.int .u8 0), (.int .u8 0), (.int .u8 0), (.int .u8 0), (.int .u8 0), (.int .u8 0), (.int .u8 0), (.int .u8 0), (.int .u8 0), (.int .u8 0), (.int .u8 0), (.int .u8 0), (.int .u8 0), (.int .u8 0), (.int .u8 0), (.int .u8 0), (.int .u8 0), (.int .u8 0), (.int .u8 0), (.int .u8 0), (.int .u8 0), (.int .u8 0), (.int .u8 0), (.int .u8 0), (.int .u8 0), (.int .u8 0), (.int .u8 0), (.int .u8 0), (.int .u8 0), (.int .u8 0), (.int .u8 0), (.int .u8 0), (.int .u8 0), (.int .u8 0), (.int .u8 0), (.int .u8 0), (.int .u8 0), (.int .u8 0), (.int .u8 0), (.int .u8 0), (.int .u8 0), (.int .u8 0), (.int .u8 0), (.int .u8 0), (.int .u8 0), (.int .u8 0), (.int .u8 0), (.int .u8 0), (.int .u8 0), (.int .u8 0), (.int .u8 0), (.int .u8 0), (.int .u8 0), (.int .u8 0), (.int .u8 0), (.int .u8 0), (.int .u8 0), (.int .u8 0), (.int .u8 0), (.int .u8 0), (.int .u8 0), (.int .u8 0), (.int .u8 0), (.int .u8 0), (.int .u8 0), (.int .u8 0), (.int .u8 0), (.int .u8 0), (.int .u8 0), (.int .u8 0), (.int .u8 0), (.int .u8 0), (.int .u8 0), (.int .u8 0), (.int .u8 0), (.int .u8 0), (.int .u8 0), (.int .u8 0), (.int .u8 0), (.int .u8 0), (.int .u8 0), (.int .u8 0), (.int .u8 0), (.int .u8 0), (.int .u8 0), (.int .u8 0), (.int .u8 0), (.int .u8 0), (.int .u8 0), (.int .u8 0), (.int .u8 0), (.int .u8 0), (.int .u8 0), (.int .u8 0), (.int .u8 0), (.int .u8 0), (.int .u8 0), (.int .u8 0), (.int .u8 0), (.int .u8 0), (.int .u8 0), (.int .u8 0), (.int .u8 0), (.int .u8 0), (.int .u8 0), (.int .u8 0), (.int .u8 0)], 256⟩ := ⟨⟨⟨Tryd.underlying131⟩, ⟨Ty.size131⟩⟩, ⟨Ty.size5⟩, ⟨_, Tryd.underlying5, rfl⟩, by kernel_rfl, .array Tryd.underlying131 Ty.zero131 rfl Ty.size5 rfl⟩
theorem ti133 : TI.ok Tryd.prog 133 ⟨.struct [(0, 1, false), (1, 1, false)] [(.int .u8 0), (.int .u8 0)], 2⟩ := ⟨⟨⟨_, Tryd.underlying133, rfl⟩, ⟨Ty.size133⟩⟩, ⟨⟨5, inferInstanceAs (TyF Tryd.prog 133 0 5 0 1 false)⟩, ⟨⟨5, inferInstanceAs (TyF Tryd.prog 133 1 5 1 1 false)⟩, trivial⟩⟩, by kernel_rfl, .struct Tryd.underlying133 Ty.zero133 rfl rfl rfl rfl⟩
theorem ti134 : TI.ok Tryd.prog 134 ⟨.arr 16 133 2 true [(.int .u8 0), (.int .u8 0), (.int .u8 0), (.int .u8 0), (.int .u8 0), (.int .u8 0), (.int .u8 0), (.int .u8 0), (.int .u8 0), (.int .u8 0), (.int .u8 0), (.int .u8 0), (.int .u8 0), (.int .u8 0), (.int .u8 0), (.int .u8 0), (.int .u8 0), (.int .u8 0), (.int .u8 0), (.int .u8 0), (.int .u8 0), (.int .u8 0), (.int .u8 0), (.int .u8 0), (.int .u8 0), (.int .u8 0), (.int .u8 0), (.int .u8 0), (.int .u8 0), (.int .u8 0), (.int .u8 0), (.int .u8 0)], 32⟩ := ⟨⟨⟨Tryd.underlying134⟩, ⟨Ty.size134⟩⟩, ⟨Ty.size133⟩, ⟨_, Tryd.underlying133, rfl⟩, by kernel_rfl, .array Tryd.underlying134 Ty.zero134 rfl Ty.size133 rfl⟩
theorem ti136 : TI.ok Tryd.prog 136 ⟨.arr 32 5 1 false [(.int .u8 0), (.int .u8 0), (.int .u8 0), (.int .u8 0), (.int .u8 0), (.int .u8 0), (.int .u8 0), (.int .u8 0), (.int .u8 0), (.int .u8 0), (.int .u8 0), (.int .u8 0), (.int .u8 0), (.int .u8 0), (.int .u8 0), (.int .u8 0), (.int .u8 0), (.int .u8 0), (.int .u8 0), (.int .u8 0), (.int .u8 0), (.int .u8 0), (.int .u8 0), (.int .u8 0), (.int .u8 0), (.int .u8 0), (.int .u8 0), (.int .u8 0), (.int .u8 0), (.int .u8 0), (.int .u8 0), (.int .u8 0)], 32⟩ := ⟨⟨⟨Tryd.underlying136⟩, ⟨Ty.size136⟩⟩, ⟨Ty.size5⟩, ⟨_, Tryd.underlying5, rfl⟩, by kernel_rfl, .array Tryd.underlying136 Ty.zero136 rfl Ty.size5 rfl⟩
theorem ti137 : TI.ok Tryd.prog 137 ⟨.arr 64 5 1 false [(.int .u8 0), (.int .u8 0), (.int .u8 0), (.int .u8 0), (.int .u8 0), (.int .u8 0), (.int .u8 0), (.int .u8 0), (.int .u8 0), (.int .u8 0), (.int .u8 0), (.int .u8 0), (.int .u8 0), (.int .u8 0), (.int .u8 0), (.int .u8 0), (.int .u8 0), (.int .u8 0), (.int .u8 0), (.int .u8 0), (.int .u8 0), (.int .u8 0), (.int .u8 0), (.int .u8 0), (.int .u8 0), (.int .u8 0), (.int .u8 0), (.int .u8 0), (.int .u8 0), (.int .u8 0), (.int .u8 0), (.int .u8 0), (.int .u8 0), (.int .u8 0), (.int .u8 0), (.int .u8 0), (.int .u8 0), (.int .u8 0), (.int .u8 0), (.int .u8 0), (.int .u8 0), (.int .u8 0), (.int .u8 0), (.int .u8 0), (.int .u8 0), (.int .u8 0), (.int .u8 0), (.int .u8 0), (.int .u8 0), (.int .u8 0), (.int .u8 0), (.int .u8 0), (.int .u8 0), (.int .u8 0), (.int .u8 0), (.int .u8 0), (.int .u8 0), (.int .u8 0), (.int .u8 0), (.int .u8 0), (.int .u8 0), (.int .u8 0), (.int .u8 0), (.int .u8 0)], 64⟩ := ⟨⟨⟨Tryd.underlying137⟩, ⟨Ty.size137⟩⟩, ⟨Ty.size5⟩, ⟨_, Tryd.underlying5, rfl⟩, by kernel_rfl, .array Tryd.underlying137 Ty.zero137 rfl Ty.size5 rfl⟩
def tt : TT := (.node (.node (.node (.node (.node (.node .leaf 2 ⟨.int .i64, 1⟩ .leaf) 3 ⟨.int .i64, 1⟩ .leaf) 4 ⟨.bool, 1⟩ (.node .leaf 5 ⟨.int .u8, 1⟩ .leaf)) 9 ⟨.str, 1⟩ (.node (.node .leaf 21 ⟨.int .i32, 1⟩ .leaf) 22 ⟨.int .u32, 1⟩ (.node .leaf 28 ⟨.slc 5 1 true, 1⟩ .leaf))) 29 ⟨.slc 3 1 false, 1⟩ (.node (.node (.node (.node .leaf 30 ⟨.slc 52 8 false, 1⟩ .leaf) 32 ⟨.struct [(0, 1, false), (1, 1, false), (2, 1, false), (3, 1, false), (4, 1, false), (5, 1, false), (6, 1, false), (7, 1, false), (8, 1, false), (9, 1, false)] [(.int .i64 0), .str [], .str [], .str [], (.int .i64 0), (.int .i64 0), (.int .i64 0), .nils, .nils, .str []], 10⟩ .leaf) 40 ⟨.ifc, 1⟩ (.node .leaf 45 ⟨.slc 32 10 false, 1⟩ .leaf)) 47 ⟨.struct [(0, 1, false), (1, 1, false), (2, 1, false), (3, 1, false)] [(.int .i64 0), (.int .i64 0), (.int .i64 0), .nils], 4⟩ (.node (.node .leaf 50 ⟨.slc 9 1 false, 1⟩ .leaf) 52 ⟨.struct [(0, 1, false), (1, 1, false), (2, 1, false), (3, 1, false), (4, 1, false), (5, 1, false), (6, 1, false), (7, 1, false)] [(.int .i64 0), .str [], .str [], (.int .i64 0), (.int .i64 0), (.bool false), .str [], (.int .i64 0)], 8⟩ (.node .leaf 55 ⟨.fn, 1⟩ .leaf)))) 67 ⟨.int .i64, 1⟩ (.node (.node (.node (.node (.node .leaf 70 ⟨.ptr, 1⟩ .leaf) 73 ⟨.int .u64, 1⟩ .leaf) 77 ⟨.ptr, 1⟩ (.node .leaf 79 ⟨.struct [(0, 1, false), (1, 1, false)] [.nilp, .nils], 2⟩ .leaf)) 89 ⟨.int .u64, 1⟩ (.node (.node .leaf 94 ⟨.struct [(0, 1, false), (1, 1, false), (2, 1, false)] [.str [], .str [], .nilifc], 3⟩ .leaf) 101 ⟨.ptr, 1⟩ (.node .leaf 108 ⟨.ptr, 1⟩ .leaf))) 110 ⟨.struct [(0, 1, false)] [.str []], 1⟩ (.node (.node (.node (.node .leaf 111 ⟨.arr 24 5 1 false [(.int .u8 0), (.int .u8 0), (.int .u8 0), (.int .u8 0), (.int .u8 0), (.int .u8 0), (.int .u8 0), (.int .u8 0), (.int .u8 0), (.int .u8 0), (.int .u8 0), (.int .u8 0), (.int .u8 0), (.int .u8 0), (.int .u8 0), (.int .u8 0), (.int .u8 0), (.int .u8 0), (.int .u8 0), (.int .u8 0), (.int .u8 0), (.int .u8 0), (.int .u8 0), (.int .u8 0)], 24⟩ .leaf) 124 ⟨.arr 20 89 1 false [(.int .u64 0), (.int .u64 0), (.int .u64 0), (.int .u64 0), (.int .u64 0), (.int .u64 0), (.int .u64 0), (.int .u64 0), (.int .u64 0), (.int .u64 0), (.int .u64 0), (.int .u64 0), (.int .u64 0), (.int .u64 0), (.int .u64 0), (.int .u64 0), (.int .u64 0), (.int .u64 0), (.int .u64 0), (.int .u64 0)], 20⟩ .leaf) 125 ⟨.arr 65 5 1 false [(.int .u8 0), (.int .u8 0), (.int .u8 0), (.int .u8 0), (.int .u8 0), (.int .u8 0), (.int .u8 0), (.int .u8 0), (.int .u8 0), (.int .u8 0), (.int .u8 0), (.int .u8 0), (.int .u8 0), (.int .u8 0), (.int .u8 0), (.int .u8 0), (.int .u8 0), (.int .u8 0), (.int .u8 0), (.int .u8 0), (.int .u8 0), (.int .u8 0), (.int .u8 0), (.int .u8 0), (.int .u8 0), (.int .u8 0), (.int .u8 0), (.int .u8 0), (.int .u8 0), (.int .u8 0), (.int .u8 0), (.int .u8 0), (.int .u8 0), (.int .u8 0), (.int .u8 0), (.int .u8 0), (.int .u8 0), (.int .u8 0), (.int .u8 0), (.int .u8 0), (.int .u8 0), (.int .u8 0), (.int .u8 0), (.int .u8 0), (.int .u8 0), (.int .u8 0), (.int .u8 0), (.int .u8 0), (.int .u8 0), (.int .u8 0), (.int .u8 0), (.int .u8 0), (.int .u8 0), (.int .u8 0), (.int .u8 0), (.int .u8 0), (.int .u8 0), (.int .u8 0), (.int .u8 0), (.int .u8 0), (.int .u8 0), (.int .u8 0), (.int .u8 0), (.int .u8 0), (.int .u8 0)], 65⟩ (.node .leaf 131 ⟨.arr 256 5 1 false [(.int .u8 0), (.int .u8 0), (.int .u8 0), (.int .u8 0), (.int .u8 0), (.int .u8 0), (.int .u8 0), (.int .u8 0), (.int .u8 0), (.int .u8 0), (.int .u8 0), (.int .u8 0), (.int .u8 0), (.int .u8 0), (.int .u8 0), (.int .u8 0), (.int .u8 0), (.int .u8 0), (.int .u8 0), (.int .u8 0), (.int .u8 0), (.int .u8 0), (.int .u8 0), (.int .u8 0), (.int .u8 0), (.int .u8 0), (.int .u8 0), (.int .u8 0), (.int .u8 0), (.int .u8 0), (.int .u8 0), (.int .u8 0), (.int .u8 0), (.int .u8 0), (.int .u8 0), (.int .u8 0), (.int .u8 0), (.int .u8 0), (.int .u8 0), (.int .u8 0), (.int .u8 0), (.int .u8 0), (.int .u8 0), (.int .u8 0), (.int .u8 0), (.int .u8 0), (.int .u8 0), (.int .u8 0), (.int .u8 0), (.int .u8 0), (.int .u8 0), (.int .u8 0), (.int .u8 0), (.int .u8 0), (.int .u8 0), (.int .u8 0), (.int .u8 0), (.int .u8 0), (.int .u8 0), (.int .u8 0), (.int .u8 0), (.int .u8 0), (.int .u8 0), (.int .u8 0), (.int .u8 0), (.int .u8 0), (.int .u8 0), (.int .u8 0), (.int .u8 0), (.int .u8 0), (.int .u8 0), (.int .u8 0), (.int .u8 0), (.int .u8 0), (.int .u8 0), (.int .u8 0), (.int .u8 0), (.int .u8 0), (.int .u8 0), (.int .u8 0), (.int .u8 0), (.int .u8 0), (.int .u8 0), (.int .u8 0), (.int .u8 0), (.int .u8 0), (.int .u8 0), (.int .u8 0), (.int .u8 0), (.int .u8 0), (.int .u8 0), (.int .u8 0), (.int .u8 0), (.int .u8 0), (.int .u8 0), (.int .u8 0), (.int .u8 0), (.int .u8 0), (.int .u8 0), (.int .u8 0), (.int .u8 0), (.int .u8 0), (.int .u8 0), (.int .u8 0), (.int .u8 0), (.int .u8 0), (.int .u8 0), (.int .u8 0), (.int .u8 0), (.int .u8 0), (.int .u8 0), (.int .u8 0), (.int .u8 0), (.int .u8 0), (.int .u8 0), (.int .u8 0), (.int .u8 0), (.int .u8 0), (.int .u8 0), (.int .u8 0), (.int .u8 0), (.int .u8 0), (.int .u8 0), (.int .u8 0), (.int .u8 0), (.int .u8 0), (.int .u8 0), (.int .u8 0), (.int .u8 0), (.int .u8 0), (.int .u8 0), (.int .u8 0), (.int .u8 0), (.int .u8 0), (.int .u8 0), (.int .u8 0), (.int .u8 0), (.int .u8 0), (.int .u8 0), (.int .u8 0), (.int .u8 0), (.int .u8 0), (.int .u8 0), (.int .u8 0), (.int .u8 0), (.int .u8 0), (.int .u8 0), (.int .u8 0), (.int .u8 0), (.int .u8 0), (.int .u8 0), (.int .u8 0), (.int .u8 0), (.int .u8 0), (.int .u8 0), (.int .u8 0), (.int .u8 0), (.int .u8 0), (.int .u8 0), (.int .u8 0), (.int .u8 0), (.int .u8 0), (.int .u8 0), (.int .u8 0), (.int .u8 0), (.int .u8 0), (.int .u8 0), (.int .u8 0), (.int .u8 0), (.int .u8 0), (.int .u8 0), (.int .u8 0), (.int .u8 0), (.int .u8 0), (.int .u8 0), (.int .u8 0), (.int .u8 0), (.int .u8 0), (.int .u8 0), (.int .u8 0), (.int .u8 0), (.int .u8 0), (.int .u8 0), (.int .u8 0), (.int .u8 0), (.int .u8 0), (.int .u8 0), (.int .u8 0), (.int .u8 0), (.int .u8 0), (.int .u8 0), (.int .u8 0), (.int .u8 0), (.int .u8 0), (.int .u8 0), (.int .u8 0), (.int .u8 0), (.int .u8 0), (.int .u8 0), (.int .u8 0), (.int .u8 0), (.int .u8 0), (.int .u8 0), (.int .u8 0), (.int .u8 0), (.int .u8 0), (.int .u8 0), (.int .u8 0), (.int .u8 0), (.int .u8 0), (.int .u8 0), (.int .u8 0), (.int .u8 0), (.int .u8 0), (.int .u8 0), (.int .u8 0), (.int .u8 0), (.int .u8 0), (.int .u8 0), (.int .u8 0), (.int .u8 0), (.int .u8 0), (.int .u8 0), (.int .u8 0), (.int .u8 0), (.int .u8 0), (.int .u8 0), (.int .u8 0), (.int .u8 0), (.int .u8 0), (.int .u8 0), (.int .u8 0), (.int .u8 0), (.int .u8 0), (.int .u8 0), (.int .u8 0), (.int .u8 0), (.int .u8 0), (.int .u8 0), (.int .u8 0), (.int .u8 0), (.int .u8 0), (.int .u8 0), (.int .u8 0), (.int .u8 0), (.int .u8 0), (.int .u8 0), (.int .u8 0), (.int .u8 0), (.int .u8 0), (.int .u8 0), (.int .u8 0), (.int .u8 0), (.int .u8 0), (.int .u8 0), (.int .u8 0)], 256⟩ .leaf)) 133 ⟨.struct [(0, 1, false), (1, 1, false)] [(.int .u8 0), (.int .u8 0)], 2⟩ (.node (.node .leaf 134 ⟨.arr 16 133 2 true [(.int .u8 0), (.int .u8 0), (.int .u8 0), (.int .u8 0), (.int .u8 0), (.int .u8 0), (.int .u8 0), (.int .u8 0), (.int .u8 0), (.int .u8 0), (.int .u8 0), (.int .u8 0), (.int .u8 0), (.int .u8 0), (.int .u8 0), (.int .u8 0), (.int .u8 0), (.int .u8 0), (.int .u8 0), (.int .u8 0), (.int .u8 0), (.int .u8 0), (.int .u8 0), (.int .u8 0), (.int .u8 0), (.int .u8 0), (.int .u8 0), (.int .u8 0), (.int .u8 0), (.int .u8 0), (.int .u8 0), (.int .u8 0)], 32⟩ .leaf) 136 ⟨.arr 32 5 1 false [(.int .u8 0), (.int .u8 0), (.int .u8 0), (.int .u8 0), (.int .u8 0), (.int .u8 0), (.int .u8 0), (.int .u8 0), (.int .u8 0), (.int .u8 0), (.int .u8 0), (.int .u8 0), (.int .u8 0), (.int .u8 0), (.int .u8 0), (.int .u8 0), (.int .u8 0), (.int .u8 0), (.int .u8 0), (.int .u8 0), (.int .u8 0), (.int .u8 0), (.int .u8 0), (.int .u8 0), (.int .u8 0), (.int .u8 0), (.int .u8 0), (.int .u8 0), (.int .u8 0), (.int .u8 0), (.int .u8 0), (.int .u8 0)], 32⟩ (.node .leaf 137 ⟨.arr 64 5 1 false [(.int .u8 0), (.int .u8 0), (.int .u8 0), (.int .u8 0), (.int .u8 0), (.int .u8 0), (.int .u8 0), (.int .u8 0), (.int .u8 0), (.int .u8 0), (.int .u8 0), (.int .u8 0), (.int .u8 0), (.int .u8 0), (.int .u8 0), (.int .u8 0), (.int .u8 0), (.int .u8 0), (.int .u8 0), (.int .u8 0), (.int .u8 0), (.int .u8 0), (.int .u8 0), (.int .u8 0), (.int .u8 0), (.int .u8 0), (.int .u8 0), (.int .u8 0), (.int .u8 0), (.int .u8 0), (.int .u8 0), (.int .u8 0), (.int .u8 0), (.int .u8 0), (.int .u8 0), (.int .u8 0), (.int .u8 0), (.int .u8 0), (.int .u8 0), (.int .u8 0), (.int .u8 0), (.int .u8 0), (.int .u8 0), (.int .u8 0), (.int .u8 0), (.int .u8 0), (.int .u8 0), (.int .u8 0), (.int .u8 0), (.int .u8 0), (.int .u8 0), (.int .u8 0), (.int .u8 0), (.int .u8 0), (.int .u8 0), (.int .u8 0), (.int .u8 0), (.int .u8 0), (.int .u8 0), (.int .u8 0), (.int .u8 0), (.int .u8 0), (.int .u8 0), (.int .u8 0)], 64⟩ .leaf)))))
theorem tok : tt.ok Tryd.prog := ⟨⟨⟨⟨⟨⟨trivial, ti2, trivial⟩, ti3, trivial⟩, ti4, ⟨trivial, ti5, trivial⟩⟩, ti9, ⟨⟨trivial, ti21, trivial⟩, ti22, ⟨trivial, ti28, trivial⟩⟩⟩, ti29, ⟨⟨⟨⟨trivial, ti30, trivial⟩, ti32, trivial⟩, ti40, ⟨trivial, ti45, trivial⟩⟩, ti47, ⟨⟨trivial, ti50, trivial⟩, ti52, ⟨trivial, ti55, trivial⟩⟩⟩⟩, ti67, ⟨⟨⟨⟨⟨trivial, ti70, trivial⟩, ti73, trivial⟩, ti77, ⟨trivial, ti79, trivial⟩⟩, ti89, ⟨⟨trivial, ti94, trivial⟩, ti101, ⟨trivial, ti108, trivial⟩⟩⟩, ti110, ⟨⟨⟨⟨trivial, ti111, trivial⟩, ti124, trivial⟩, ti125, ⟨trivial, ti131, trivial⟩⟩, ti133, ⟨⟨trivial, ti134, trivial⟩, ti136, ⟨trivial, ti137, trivial⟩⟩⟩⟩⟩
end Go.Proofs.YtgliemhhnkhboaaDoor.Ty
end
section
set_option linter.unusedVariables false
set_option linter.unusedSimpArgs false
set_option maxRecDepth 100000
set_option maxHeartbeats 1000000
namespace Go.Proofs.YtgliemhhnkhboaaDoor
open Go.Al Go.RowKit
instance : TyI Tryd.prog 40 := ⟨_, Tryd.underlying40⟩
def gn (b : List UInt8) (at_ : Nat) : Nat → Nat → Nat → Nat × Nat × Nat
  | 0, _, _ => (0, 0, 11)
  | k + 1, i, n => if at_ + i = b.length then (0, 0, 10) else
    let c := (b.getD (at_ + i) 0).toNat
    let n' := n + c % 128 * 2 ^ (7 * i)
    if c < 128 then (if c = 0 ∧ 0 < i ∨ 9007199254740992 < n' then (0, 0, 11) else (n', at_ + i + 1, 0)) else gn b at_ k (i + 1) n'
def getNum (b : List UInt8) (at_ : Nat) : Nat × Nat × Nat := if b.length < at_ then (0, 0, 10) else gn b at_ 8 0 0
def e3 (p : Nat × Nat × Nat) : AV := .tup [.int .i64 p.1, .int .i64 p.2.1, .int .u16 p.2.2]
end Go.Proofs.YtgliemhhnkhboaaDoor
end
section
set_option linter.unusedVariables false
set_option linter.unusedSimpArgs false
set_option maxRecDepth 100000
set_option maxHeartbeats 1000000
namespace Go.Proofs.YtgliemhhnkhboaaDoor
open Go.Al Go.RowKit
def getText (b : List UInt8) (a most : Nat) : List UInt8 × Nat × Nat :=
  let p := getNum b a
  if p.2.2 ≠ 0 then ([], 0, p.2.2) else if most < p.1 then ([], 0, 3) else if b.length < p.1 + p.2.1 then ([], 0, 10) else ((b.take (p.2.1 + p.1)).drop p.2.1, p.2.1 + p.1, 0)
def eT (p : List UInt8 × Nat × Nat) : AV := .tup [.str p.1, .int .i64 p.2.1, .int .u16 p.2.2]
def atN (a k e : Nat) : Nat := if e = 0 then k else a
def errN (e : Nat) (f : Option Nat) : Option Nat := if e = 0 then f else match f with
  | none => some e
  | some g => some g
def rNum (v : List UInt8) (a : Nat) (f : Option Nat) : Nat × Nat × Option Nat :=
  let p := getNum v a
  (if (errN p.2.2 f).isNone then p.1 else 0, atN a p.2.1 p.2.2, errN p.2.2 f)
def rText (v : List UInt8) (a : Nat) (f : Option Nat) (most : Nat) : List UInt8 × Nat × Option Nat :=
  let p := getText v a most
  (if (errN p.2.2 f).isNone then p.1 else [], atN a p.2.1 p.2.2, errN p.2.2 f)
end Go.Proofs.YtgliemhhnkhboaaDoor
end
section
set_option linter.unusedVariables false
set_option linter.unusedSimpArgs false
set_option maxRecDepth 100000
set_option maxHeartbeats 400000
namespace Go.Proofs.YtgliemhhnkhboaaDoor
open Go.Al Go.RowKit
def deathN (m : Msg) : Int := if m.dead = false then 0 else if m.why = [110, 97, 99, 107] then 1 else 2
end Go.Proofs.YtgliemhhnkhboaaDoor
end
section
set_option linter.unusedVariables false
set_option linter.unusedSimpArgs false
set_option maxRecDepth 100000
set_option maxHeartbeats 400000
namespace Go.Proofs.YtgliemhhnkhboaaDoor
open Go.Al Go.RowKit
def numsB : List Int → List UInt8
  | [] => []
  | a :: l => num a ++ numsB l
def txtsB : List (List UInt8) → List UInt8
  | [] => []
  | a :: l => txt a ++ txtsB l
end Go.Proofs.YtgliemhhnkhboaaDoor
end
section
set_option linter.unusedVariables false
namespace Go.Proofs.YtgliemhhnkhboaaDoor
open Go.Al
def w64 (n : Int) : Int := Go.IntKind.i64.wrap n
def gapsB (last : Int) : List Int → List UInt8
  | [] => []
  | a :: l => num (w64 (a - last)) ++ gapsB a l
def acksB (x : Sub) : List UInt8 := num x.acks.length ++ gapsB x.floor x.acks
def msgB (m : Msg) : List UInt8 := txt m.body ++ txt m.attr ++ num m.tries ++ num m.until_ ++ num m.prio ++ num (deathN m)
def subB (x : Sub) : List UInt8 := txt x.name ++ txt x.topic ++ txt x.want ++ num x.lease ++ num x.most ++ num x.floor ++ txt x.note
def msgRow (id : Int) (m : Msg) : Row := ⟨rkey 3 113 id m.seq, msgB m⟩
def enc3 (x : Sub) : List Row := (if x.acks = [] then [] else [⟨rkey 3 97 x.id 0, acksB x⟩]) ++ x.queue.map (msgRow x.id) ++ [⟨rkey 3 115 x.id 0, subB x⟩]
structure Fits (x : Sub) : Prop where
  name : x.name.length ≤ 1000
  topic : x.topic.length ≤ 1000
  want : x.want.length ≤ 1000
  note : x.note.length ≤ 1000
  nacks : x.acks.length ≤ 100000
  nqueue : x.queue.length ≤ 100000
  queue : ∀ m ∈ x.queue, m.body.length ≤ 1000 ∧ m.attr.length ≤ 1000
end Go.Proofs.YtgliemhhnkhboaaDoor
end
section
set_option linter.unusedVariables false
set_option linter.unusedSimpArgs false
set_option maxRecDepth 100000
namespace Go.Proofs.YtgliemhhnkhboaaDoor
open Go.Al Go.RowKit
theorem byte_val {n : Nat} (h : n < 256) : (UInt8.ofNat n).toNat = n := by simp; omega
def At (v : List UInt8) (a : Nat) (r : List UInt8) : Prop := a ≤ v.length ∧ v.drop a = r
def n53 (n : Int) : Prop := 0 ≤ n ∧ n ≤ 9007199254740992
end Go.Proofs.YtgliemhhnkhboaaDoor
end
section
set_option linter.unusedVariables false
set_option linter.unusedSimpArgs false
set_option maxRecDepth 100000
set_option maxHeartbeats 400000
namespace Go.Proofs.YtgliemhhnkhboaaDoor
open Go.Al Go.RowKit
def gL (c : List UInt8) (i : Nat) : Nat := (c.getD i 0).toNat
def letter (k i : Nat) : UInt8 := UInt8.ofNat (97 + (i + k) % 26)
def textL (k most : Nat) : List UInt8 := (List.range (k % (most + 1))).map (letter k)
end Go.Proofs.YtgliemhhnkhboaaDoor
end
section
set_option linter.unusedVariables false
namespace Go.Proofs.YtgliemhhnkhboaaDoor
open Go.Al
def Rise : Int → List Int → Prop
  | _, [] => True
  | lo, a :: l => lo < a ∧ Rise a l
theorem Rise.lt : ∀ {l : List Int} {lo : Int}, Rise lo l → ∀ a ∈ l, lo < a
  | [], _, _, a, h => by simp at h
  | b :: l, lo, h, a, ha => by
    rcases List.mem_cons.1 ha with rfl | ha
    · exact h.1
    · have := Rise.lt h.2 a ha
      have := h.1
      omega
structure MsgOk (clock most lease : Int) (m : Msg) : Prop where
  body : m.body.length ≤ 60
  attr : m.attr = [] ∨ m.attr = [97, 61, 49] ∨ m.attr = [98, 61, 50]
  prio : 0 ≤ m.prio ∧ m.prio ≤ 9
  st : (m.dead = false ∧ m.why = [] ∧ m.until_ = 0 ∧ 0 ≤ m.tries ∧ m.tries < most) ∨ (m.dead = false ∧ m.why = [] ∧ (1 ≤ m.tries ∧ m.tries ≤ most) ∧ clock < m.until_ ∧ m.until_ ≤ clock + lease) ∨
    (m.dead = true ∧ m.until_ = 0 ∧ m.tries = most ∧ (m.why = [110, 97, 99, 107] ∨ m.why = [116, 105, 109, 101]))
def TopicOk (v : List UInt8) : Prop := v = [35] ∨ v = [97] ∨ v = [97, 47, 43] ∨ v = [98, 47, 35]
def WantOk (v : List UInt8) : Prop := v = [] ∨ v = [97, 61, 49] ∨ v = [97, 61, 49, 44, 98, 61, 50]
structure Grown (id clock next : Nat) (x : Sub) : Prop where
  name : ∃ k, k < 256 ∧ x.name = 110 :: textL k 19
  topic : TopicOk x.topic
  want : WantOk x.want
  note : x.note.length ≤ 30
  id : x.id = id
  most : 1 ≤ x.most ∧ x.most ≤ 9
  lease : 1 ≤ x.lease ∧ x.lease ≤ 1000
  floor : 0 ≤ x.floor ∧ x.floor < next
  nacks : x.acks.length ≤ 20
  nqueue : x.queue.length ≤ 30
  rise : Rise x.floor x.acks
  high : ∀ a ∈ x.acks, a < next
  qrise : Rise x.floor (x.queue.map Msg.seq)
  qhigh : ∀ m ∈ x.queue, m.seq < next
  apart : ∀ a ∈ x.acks, ∀ m ∈ x.queue, a ≠ m.seq
  msgs : ∀ m ∈ x.queue, MsgOk clock x.most x.lease m
theorem TopicOk.len {v : List UInt8} (h : TopicOk v) : v.length ≤ 30 := by rcases h with rfl | rfl | rfl | rfl <;> decide
theorem WantOk.len {v : List UInt8} (h : WantOk v) : v.length ≤ 30 := by rcases h with rfl | rfl | rfl <;> decide
structure UpTo (x : Sub) (seq : Int) : Prop where
  floor : x.floor ≤ seq
  acks : ∀ a ∈ x.acks, a ≤ seq
  queue : ∀ m ∈ x.queue, m.seq ≤ seq
end Go.Proofs.YtgliemhhnkhboaaDoor
end
section
set_option linter.unusedVariables false
set_option linter.unusedSimpArgs false
namespace Go.Proofs.YtgliemhhnkhboaaDoor
open Go.Al
structure Pts where
  v : Nat
  t : UInt8
  id : Int
  seq : Int
  ok : Bool
def Pts.none : Pts := ⟨0, 0, 0, 0, false⟩
def parts (k : List UInt8) : Pts :=
  if k.length = 22 ∧ (48 ≤ (k.getD 0 0).toNat ∧ (k.getD 0 0).toNat ≤ 57) ∧ (97 ≤ (k.getD 1 0).toNat ∧ (k.getD 1 0).toNat ≤ 122) then
    if (goAtoi ((k.take 12).drop 2)).2 = true ∧ (goAtoi (k.drop 12)).2 = true ∧ rkey ((k.getD 0 0).toNat - 48) (k.getD 1 0) (goAtoi ((k.take 12).drop 2)).1 (goAtoi (k.drop 12)).1 = k then
      ⟨(k.getD 0 0).toNat - 48, k.getD 1 0, (goAtoi ((k.take 12).drop 2)).1, (goAtoi (k.drop 12)).1, true⟩
    else .none
  else .none
theorem goAtoi_dN (n : Int) : goAtoi (dN 10 (cl n)) = (((cl n : Nat) : Int), true) := goAtoi_ok (n := ((cl n : Nat) : Int)) (by rw [dN_length]; decide) (atoi_dN 9 (cl n) (cl_lt n))
theorem rkey_take (v : Nat) (t : UInt8) (id seq : Int) : ((rkey v t id seq).take 12).drop 2 = dN 10 (cl id) := by
  have hA := dN_length 10 (cl id)
  show ((dN 10 (cl id)) ++ (dN 10 (cl seq))).take 10 = _
  rw [List.take_append_of_le_length (by omega), List.take_of_length_le (by omega)]
theorem rkey_drop (v : Nat) (t : UInt8) (id seq : Int) : (rkey v t id seq).drop 12 = dN 10 (cl seq) := by
  have hA := dN_length 10 (cl id)
  show ((dN 10 (cl id)) ++ (dN 10 (cl seq))).drop 10 = _
  rw [List.drop_append_of_le_length (by omega), List.drop_of_length_le (by omega)]; rfl
theorem rkey_0 (v : Nat) (t : UInt8) (id seq : Int) : (rkey v t id seq).getD 0 0 = UInt8.ofNat (48 + v) := rfl
theorem rkey_1 (v : Nat) (t : UInt8) (id seq : Int) : (rkey v t id seq).getD 1 0 = t := rfl
theorem rkey_cl (v : Nat) (t : UInt8) (id seq : Int) : rkey v t (cl id : Nat) (cl seq : Nat) = rkey v t id seq := by
  have h : ∀ n : Int, cl ((cl n : Nat) : Int) = cl n := fun n => by unfold cl; omega
  simp only [rkey, h]
theorem parts_rkey {v : Nat} (hv : v < 10) {t : UInt8} (ht : 97 ≤ t.toNat ∧ t.toNat ≤ 122) (id seq : Int) : parts (rkey v t id seq) = ⟨v, t, (cl id : Nat), (cl seq : Nat), true⟩ := by
  have hb : (UInt8.ofNat (48 + v)).toNat = 48 + v := byte_val (by omega)
  rw [parts, rkey_0, rkey_1, rkey_take, rkey_drop, goAtoi_dN, goAtoi_dN, hb, rkey_length, if_pos ⟨rfl, by omega, ht⟩]
  rw [show 48 + v - 48 = v by omega]
  simp only [rkey_cl, and_self, if_true]
def partsR (k : List UInt8) : Pts :=
  if k.length = 22 ∧ (97 ≤ (k.getD 1 0).toNat ∧ (k.getD 1 0).toNat ≤ 122) then
    if rkey (goAtoi (k.take 1)).1.toNat (k.getD 1 0) (goAtoi ((k.take 12).drop 2)).1 (goAtoi (k.drop 12)).1 = k then
      ⟨(goAtoi (k.take 1)).1.toNat, k.getD 1 0, (goAtoi ((k.take 12).drop 2)).1, (goAtoi (k.drop 12)).1, true⟩
    else .none
  else .none
end Go.Proofs.YtgliemhhnkhboaaDoor
end
section
set_option linter.unusedVariables false
set_option linter.unusedSimpArgs false
set_option maxHeartbeats 400000
namespace Go.Proofs.YtgliemhhnkhboaaDoor
open Go.Al Go.RowKit
end Go.Proofs.YtgliemhhnkhboaaDoor
end
section
set_option linter.unusedVariables false
set_option linter.unusedSimpArgs false
set_option maxRecDepth 100000
set_option maxHeartbeats 1000000
namespace Go.Proofs.YtgliemhhnkhboaaDoor
open Go.Al Go.RowKit
theorem sub48 {c : UInt8} (h : 48 ≤ c.toNat ∧ c.toNat ≤ 57) : IntKind.i64.wrap (((Al.byteOf ((c.toNat : Int) - 48)).toNat : Nat) : Int) = ((c.toNat - 48 : Nat) : Int) := by
  have e : ((c.toNat : Int) - 48) = ((c.toNat - 48 : Nat) : Int) := by omega
  rw [e, byteOf_toNat _ (by omega), IntWalk.i64_in _ (by omega)]
end Go.Proofs.YtgliemhhnkhboaaDoor
end
section
set_option linter.unusedVariables false
set_option linter.unusedSimpArgs false
set_option maxRecDepth 100000
set_option maxHeartbeats 2000000
namespace Go.Proofs.YtgliemhhnkhboaaDoor
open Go.Al Go.RowKit
def ePts (p : Pts) : AV := .tup [.int .i64 p.v, .int .u8 p.t.toNat, .int .i64 p.id, .int .i64 p.seq, .bool p.ok]
theorem getD_get {k : List UInt8} {i : Nat} (h : i < k.length) : k[i]? = some (k.getD i 0) := by simp [List.getD, h]
theorem a_nilEn {E : AEnv} {x y : Operand} {yt : TypeId} {b : Bool} (hx : aeval E x = eErr b) (hy : y = .const .nilIface) : Al.Yields Tryd.prog E (.binOp .neq 40 x y yt) (.bool (!b)) := by
  subst hy
  cases b
  · exact a_nilI hx rfl (.inr ⟨_, _, rfl⟩) rfl rfl rfl
  · exact a_nilI hx rfl (.inl rfl) rfl rfl rfl
theorem partsS_any (w0 : Base) (hL : Laid w0) (k : List UInt8) (hk : k.length ≤ 1000000) : CallP Tryd.prog w0 5 [.str k] (ePts (parts k)) := by
  refine CallP.start Tryd.func5 rfl Tryd.ntmps5 (by simp) fun σ Q hQ => ?_
  by_cases h0 : ¬ k.length = 22
  · have d0 : (!decide (((k.length : Nat) : Int) = 22)) = true := by simp; omega
    rw [parts, if_neg (fun h => h0 h.1)] at hQ
    refine W.seq ?_; refine W.regionL (by decide +kernel) rfl ?_; apply r_op; exact rfl; exact rfl; apply a_assign; (conv => (lhs; whnf)); apply r_op; exact rfl; exact rfl; apply a_assign; (conv => (lhs; whnf)); apply r_op; exact rfl; exact rfl; apply a_assign; (conv => (lhs; whnf)); apply r_op; exact rfl; exact rfl; apply a_assign; (conv => (lhs; whnf)); apply r_op; exact rfl; exact rfl
    apply a_assign; (conv => (lhs; whnf)); (with_reducible refine runs_done ?_); refine W.seq ?_; refine W.seq ?_; refine W.regionL (by decide +kernel) rfl ?_; apply r_op; exact rfl; exact rfl; apply a_move; (conv => (lhs; whnf)); apply r_op; exact rfl; exact rfl; apply g_call; exact a_len_str rfl; apply r_op; exact rfl; exact rfl; apply g_binOp; exact a_binI rfl rfl rfl; apply r_op; exact rfl
    exact rfl; apply a_move; (conv => (lhs; whnf)); apply q_skip; exact rfl; exact want_f rfl rfl rfl (by assumption); apply q_skip; exact rfl; exact want_f rfl rfl rfl (by assumption); apply q_skip; exact rfl; exact want_f rfl rfl rfl (by assumption); apply r_op; exact rfl; exact rfl; apply g_pick; apply a_pickT rfl (by assumption); (conv => (lhs; whnf)); apply r_op; exact rfl; exact rfl
    apply a_move; (conv => (lhs; whnf)); apply q_skip; exact rfl; exact want_f rfl rfl rfl (by exact rfl); apply q_skip; exact rfl; exact want_f rfl rfl rfl (by exact rfl); apply q_skip; exact rfl; exact want_f rfl rfl rfl (by exact rfl); apply r_op; exact rfl; exact rfl; apply g_pick; apply a_pickT rfl (by exact rfl); (conv => (lhs; whnf)); apply r_op; exact rfl; exact rfl; apply a_move
    (conv => (lhs; whnf)); apply q_skip; exact rfl; exact want_f rfl rfl rfl (by exact rfl); apply q_skip; exact rfl; exact want_f rfl rfl rfl (by exact rfl); apply q_skip; exact rfl; exact want_f rfl rfl rfl (by exact rfl); apply r_op; exact rfl; exact rfl; apply g_pick; apply a_pickT rfl (by exact rfl); (conv => (lhs; whnf)); apply r_op; exact rfl; exact rfl; apply a_move; (conv => (lhs; whnf))
    apply q_skip; exact rfl; exact want_f rfl rfl rfl (by exact rfl); apply q_skip; exact rfl; exact want_f rfl rfl rfl (by exact rfl); apply q_skip; exact rfl; exact want_f rfl rfl rfl (by exact rfl); apply r_op; exact rfl; exact rfl; apply g_pick; apply a_pickT rfl (by exact rfl); (conv => (lhs; whnf)); (with_reducible refine runs_done ?_); refine W.condT rfl (by exact rfl) ?_; refine W.seq ?_
    refine W.regionL (by decide +kernel) rfl ?_; apply r_op; exact rfl; exact rfl; apply a_assign; (conv => (lhs; whnf)); apply r_op; exact rfl; exact rfl; apply a_assign; (conv => (lhs; whnf)); apply r_op; exact rfl; exact rfl; apply a_assign; (conv => (lhs; whnf)); apply r_op; exact rfl; exact rfl; apply a_assign; (conv => (lhs; whnf)); apply r_op; exact rfl; exact rfl; apply a_assign
    (conv => (lhs; whnf)); (with_reducible refine runs_done ?_); refine W.ret ?_; show Q Exit.ret _ _; refine post_q hQ (by apply res_tmp; exact rfl; apply res_tmp; exact rfl; apply res_tmp; exact rfl; apply res_tmp; exact rfl; apply res_tmp; exact rfl; exact res_nil) (.inl rfl) (by exact .refl _) ?_; (conv => (lhs; whnf)); rfl
  have h0 := Decidable.of_not_not h0
  have d0 : (!decide (((k.length : Nat) : Int) = 22)) = false := by simp [h0]
  have g0 : k[(0 : Int).toNat]? = some (k.getD 0 0) := getD_get (by omega)
  have g1 : k[(1 : Int).toNat]? = some (k.getD 1 0) := getD_get (by omega)
  have hA1 := goAtoi_any w0 hL ((k.take (12 : Int).toNat).drop (2 : Int).toNat) (by simp; omega)
  have hA2 := goAtoi_any w0 hL ((k.take ((k.length : Nat) : Int).toNat).drop (12 : Int).toNat) (by simp; omega)
  have e1 : (k.take 12).drop 2 = (k.take (12 : Int).toNat).drop (2 : Int).toNat := rfl
  have e2 : k.drop 12 = (k.take ((k.length : Nat) : Int).toNat).drop (12 : Int).toNat := by rw [Int.toNat_natCast, List.take_length]; rfl
  have hp : parts k = if k.length = 22 ∧ (48 ≤ (k.getD 0 0).toNat ∧ (k.getD 0 0).toNat ≤ 57) ∧ (97 ≤ (k.getD 1 0).toNat ∧ (k.getD 1 0).toNat ≤ 122) then _ else _ := rfl
  rw [e1, e2] at hp
  generalize k.getD 0 0 = c0 at g0 hp
  generalize k.getD 1 0 = t at g1 hp
  generalize goAtoi ((k.take (12 : Int).toNat).drop (2 : Int).toNat) = A1 at hA1 hp
  generalize goAtoi ((k.take ((k.length : Nat) : Int).toNat).drop (12 : Int).toNat) = A2 at hA2 hp
  obtain ⟨a, ba⟩ := A1
  obtain ⟨b, bb⟩ := A2
  dsimp only at hA1 hA2 hp
  have hK : 48 ≤ c0.toNat ∧ c0.toNat ≤ 57 → CallP Tryd.prog w0 6 [.int .i64 (IntKind.i64.wrap (((Al.byteOf ((c0.toNat : Int) - 48)).toNat : Nat) : Int)), .int .u8 t.toNat, .int .i64 a, .int .i64 b] (.str (rkey (c0.toNat - 48) t a b)) := fun h => by
    rw [sub48 h]
    exact keyS_any w0 hL _ (by omega) _ a b
  clear e1 e2; refine W.seq ?_; refine W.regionL (by decide +kernel) rfl ?_; apply r_op; exact rfl; exact rfl; apply a_assign; (conv => (lhs; whnf)); apply r_op; exact rfl; exact rfl; apply a_assign; (conv => (lhs; whnf)); apply r_op; exact rfl; exact rfl; apply a_assign; (conv => (lhs; whnf)); apply r_op; exact rfl; exact rfl; apply a_assign; (conv => (lhs; whnf)); apply r_op; exact rfl; exact rfl
  apply a_assign; (conv => (lhs; whnf)); (with_reducible refine runs_done ?_); refine W.seq ?_; refine W.seq ?_; refine W.regionL (by decide +kernel) rfl ?_; apply r_op; exact rfl; exact rfl; apply a_move; (conv => (lhs; whnf)); apply r_op; exact rfl; exact rfl; apply g_call; exact a_len_str rfl; apply r_op; exact rfl; exact rfl; apply g_binOp; exact a_binI rfl rfl rfl; apply r_op; exact rfl
  exact rfl; apply a_move; (conv => (lhs; whnf)); apply r_op; exact rfl; exact want_t rfl rfl rfl (by assumption); apply a_move; (conv => (lhs; whnf)); apply r_op; exact rfl; exact want_t rfl rfl rfl (by assumption); apply g_index; exact a_indexS rfl rfl (by omega) (by assumption); apply r_op; exact rfl; exact want_t rfl rfl rfl (by assumption); apply g_binOp; exact a_binI rfl rfl rfl; apply r_op
  exact rfl; exact rfl; apply g_pick; apply a_pickF rfl (by assumption); (conv => (lhs; whnf)); apply r_op; exact rfl; exact rfl; apply a_move; (conv => (lhs; whnf)); refine q_split rfl rfl rfl (fun hg => ?_) (fun hg => ?_); apply q_skip; exact rfl; exact want_f rfl rfl rfl (by assumption); apply q_skip; exact rfl; exact want_f rfl rfl rfl (by assumption); apply q_skip; exact rfl
  exact want_f rfl rfl rfl (by assumption); apply r_op; exact rfl; exact rfl; apply g_pick; apply a_pickT rfl (by assumption); (conv => (lhs; whnf)); apply r_op; exact rfl; exact rfl; apply a_move; (conv => (lhs; whnf)); apply q_skip; exact rfl; exact want_f rfl rfl rfl (by exact rfl); apply q_skip; exact rfl; exact want_f rfl rfl rfl (by exact rfl); apply q_skip; exact rfl
  exact want_f rfl rfl rfl (by exact rfl); apply r_op; exact rfl; exact rfl; apply g_pick; apply a_pickT rfl (by exact rfl); (conv => (lhs; whnf)); apply r_op; exact rfl; exact rfl; apply a_move; (conv => (lhs; whnf)); apply q_skip; exact rfl; exact want_f rfl rfl rfl (by exact rfl); apply q_skip; exact rfl; exact want_f rfl rfl rfl (by exact rfl); apply q_skip; exact rfl
  exact want_f rfl rfl rfl (by exact rfl); apply r_op; exact rfl; exact rfl; apply g_pick; apply a_pickT rfl (by exact rfl); (conv => (lhs; whnf)); (with_reducible refine runs_done ?_); refine W.condT rfl (by exact rfl) ?_; refine W.seq ?_; refine W.regionL (by decide +kernel) rfl ?_; apply r_op; exact rfl; exact rfl; apply a_assign; (conv => (lhs; whnf)); apply r_op; exact rfl; exact rfl
  apply a_assign; (conv => (lhs; whnf)); apply r_op; exact rfl; exact rfl; apply a_assign; (conv => (lhs; whnf)); apply r_op; exact rfl; exact rfl; apply a_assign; (conv => (lhs; whnf)); apply r_op; exact rfl; exact rfl; apply a_assign; (conv => (lhs; whnf)); (with_reducible refine runs_done ?_); refine W.ret ?_; show Q Exit.ret _ _
  refine post_q hQ (by apply res_tmp; exact rfl; apply res_tmp; exact rfl; apply res_tmp; exact rfl; apply res_tmp; exact rfl; apply res_tmp; exact rfl; exact res_nil) (.inl rfl) (by exact .refl _) ?_; (conv => (lhs; whnf)); rotate_left; apply r_op; exact rfl; exact want_t rfl rfl rfl (by assumption); apply a_move; (conv => (lhs; whnf)); apply r_op; exact rfl
  exact want_t rfl rfl rfl (by assumption); apply g_index; exact a_indexS rfl rfl (by omega) (by assumption); apply r_op; exact rfl; exact want_t rfl rfl rfl (by assumption); apply g_binOp; exact a_binI rfl rfl rfl; apply r_op; exact rfl; exact rfl; apply g_pick; apply a_pickF rfl (by assumption); (conv => (lhs; whnf)); apply r_op; exact rfl; exact rfl; apply a_move; (conv => (lhs; whnf))
  refine q_split rfl rfl rfl (fun hg => ?_) (fun hg => ?_); apply q_skip; exact rfl; exact want_f rfl rfl rfl (by assumption); apply q_skip; exact rfl; exact want_f rfl rfl rfl (by assumption); apply q_skip; exact rfl; exact want_f rfl rfl rfl (by assumption); apply r_op; exact rfl; exact rfl; apply g_pick; apply a_pickT rfl (by assumption); (conv => (lhs; whnf)); apply r_op; exact rfl; exact rfl
  apply a_move; (conv => (lhs; whnf)); apply q_skip; exact rfl; exact want_f rfl rfl rfl (by exact rfl); apply q_skip; exact rfl; exact want_f rfl rfl rfl (by exact rfl); apply q_skip; exact rfl; exact want_f rfl rfl rfl (by exact rfl); apply r_op; exact rfl; exact rfl; apply g_pick; apply a_pickT rfl (by exact rfl); (conv => (lhs; whnf)); (with_reducible refine runs_done ?_)
  refine W.condT rfl (by exact rfl) ?_; refine W.seq ?_; refine W.regionL (by decide +kernel) rfl ?_; apply r_op; exact rfl; exact rfl; apply a_assign; (conv => (lhs; whnf)); apply r_op; exact rfl; exact rfl; apply a_assign; (conv => (lhs; whnf)); apply r_op; exact rfl; exact rfl; apply a_assign; (conv => (lhs; whnf)); apply r_op; exact rfl; exact rfl; apply a_assign; (conv => (lhs; whnf))
  apply r_op; exact rfl; exact rfl; apply a_assign; (conv => (lhs; whnf)); (with_reducible refine runs_done ?_); refine W.ret ?_; show Q Exit.ret _ _; refine post_q hQ (by apply res_tmp; exact rfl; apply res_tmp; exact rfl; apply res_tmp; exact rfl; apply res_tmp; exact rfl; apply res_tmp; exact rfl; exact res_nil) (.inl rfl) (by exact .refl _) ?_; (conv => (lhs; whnf)); rotate_left; apply r_op
  exact rfl; exact want_t rfl rfl rfl (by assumption); apply a_move; (conv => (lhs; whnf)); apply r_op; exact rfl; exact want_t rfl rfl rfl (by assumption); apply g_index; exact a_indexS rfl rfl (by omega) (by assumption); apply r_op; exact rfl; exact want_t rfl rfl rfl (by assumption); apply g_binOp; exact a_binI rfl rfl rfl; apply r_op; exact rfl; exact rfl; apply g_pick
  apply a_pickF rfl (by assumption); (conv => (lhs; whnf)); apply r_op; exact rfl; exact rfl; apply a_move; (conv => (lhs; whnf)); refine q_split rfl rfl rfl (fun hg => ?_) (fun hg => ?_); apply q_skip; exact rfl; exact want_f rfl rfl rfl (by assumption); apply q_skip; exact rfl; exact want_f rfl rfl rfl (by assumption); apply q_skip; exact rfl; exact want_f rfl rfl rfl (by assumption); apply r_op
  exact rfl; exact rfl; apply g_pick; apply a_pickT rfl (by assumption); (conv => (lhs; whnf)); (with_reducible refine runs_done ?_); refine W.condT rfl (by exact rfl) ?_; refine W.seq ?_; refine W.regionL (by decide +kernel) rfl ?_; apply r_op; exact rfl; exact rfl; apply a_assign; (conv => (lhs; whnf)); apply r_op; exact rfl; exact rfl; apply a_assign; (conv => (lhs; whnf)); apply r_op; exact rfl
  exact rfl; apply a_assign; (conv => (lhs; whnf)); apply r_op; exact rfl; exact rfl; apply a_assign; (conv => (lhs; whnf)); apply r_op; exact rfl; exact rfl; apply a_assign; (conv => (lhs; whnf)); (with_reducible refine runs_done ?_); refine W.ret ?_; show Q Exit.ret _ _
  refine post_q hQ (by apply res_tmp; exact rfl; apply res_tmp; exact rfl; apply res_tmp; exact rfl; apply res_tmp; exact rfl; apply res_tmp; exact rfl; exact res_nil) (.inl rfl) (by exact .refl _) ?_; (conv => (lhs; whnf)); rotate_left; apply r_op; exact rfl; exact want_t rfl rfl rfl (by assumption); apply a_move; (conv => (lhs; whnf)); apply r_op; exact rfl
  exact want_t rfl rfl rfl (by assumption); apply g_index; exact a_indexS rfl rfl (by omega) (by assumption); apply r_op; exact rfl; exact want_t rfl rfl rfl (by assumption); apply g_binOp; exact a_binI rfl rfl rfl; apply r_op; exact rfl; exact rfl; apply g_pick; apply a_pickF rfl (by assumption); (conv => (lhs; whnf)); (with_reducible refine runs_done ?_)
  refine W.cond rfl (fun hc => ?_) (fun hc => ?_); refine W.seq ?_; refine W.regionL (by decide +kernel) rfl ?_; apply r_op; exact rfl; exact rfl; apply a_assign; (conv => (lhs; whnf)); apply r_op; exact rfl; exact rfl; apply a_assign; (conv => (lhs; whnf)); apply r_op; exact rfl; exact rfl; apply a_assign; (conv => (lhs; whnf)); apply r_op; exact rfl; exact rfl; apply a_assign
  (conv => (lhs; whnf)); apply r_op; exact rfl; exact rfl; apply a_assign; (conv => (lhs; whnf)); (with_reducible refine runs_done ?_); refine W.ret ?_; show Q Exit.ret _ _; refine post_q hQ (by apply res_tmp; exact rfl; apply res_tmp; exact rfl; apply res_tmp; exact rfl; apply res_tmp; exact rfl; apply res_tmp; exact rfl; exact res_nil) (.inl rfl) (by exact .refl _) ?_; (conv => (lhs; whnf))
  rotate_left; refine W.skip ?_; show W _ _ _ _ _ _ _; refine W.seq ?_; refine W.regionL (by decide +kernel) rfl ?_; apply r_op; exact rfl; exact rfl; apply a_move; (conv => (lhs; whnf)); apply r_op; exact rfl; exact rfl; apply g_index; exact a_indexS rfl rfl (by omega) (by assumption); apply r_op; exact rfl; exact rfl; apply g_binOp; exact a_u8sub rfl rfl; apply r_op; exact rfl; exact rfl
  apply g_convert; exact a_convI rfl; apply r_op; exact rfl; exact rfl; apply a_assign; (conv => (lhs; whnf)); (with_reducible refine runs_done ?_); refine W.seq ?_; refine W.regionL (by decide +kernel) rfl ?_; apply r_op; exact rfl; exact rfl; apply a_move; (conv => (lhs; whnf)); apply r_op; exact rfl; exact rfl; apply g_slice; exact a_sliceS rfl rfl rfl (by omega); apply r_callP; exact rfl
  exact rfl; exact rfl; exact rfl; exact rfl; infer_instance; exact hA1; apply r_op; exact rfl; exact rfl; apply a_move; (conv => (lhs; whnf)); apply r_op; exact rfl; exact rfl; apply g_extract; exact a_extract rfl rfl; apply r_op; exact rfl; exact rfl; apply g_extract; exact a_extract rfl rfl; apply r_op; exact rfl; exact rfl; apply a_assign; (conv => (lhs; whnf)); apply r_op; exact rfl; exact rfl
  apply a_assign; (conv => (lhs; whnf)); (with_reducible refine runs_done ?_); refine W.seq ?_; refine W.regionL (by decide +kernel) rfl ?_; apply r_op; exact rfl; exact rfl; apply a_move; (conv => (lhs; whnf)); apply r_op; exact rfl; exact rfl; apply g_slice; exact a_sliceS rfl rfl rfl (by omega); apply r_callP; exact rfl; exact rfl; exact rfl; exact rfl; exact rfl; infer_instance; exact hA2
  apply r_op; exact rfl; exact rfl; apply a_move; (conv => (lhs; whnf)); apply r_op; exact rfl; exact rfl; apply g_extract; exact a_extract rfl rfl; apply r_op; exact rfl; exact rfl; apply g_extract; exact a_extract rfl rfl; apply r_op; exact rfl; exact rfl; apply a_assign; (conv => (lhs; whnf)); apply r_op; exact rfl; exact rfl; apply a_assign; (conv => (lhs; whnf))
  (with_reducible refine runs_done ?_); refine W.seq ?_; refine W.seq ?_; refine W.regionL (by decide +kernel) rfl ?_; apply r_op; exact rfl; exact rfl; apply a_move; (conv => (lhs; whnf)); apply r_op; exact rfl; exact rfl; apply g_binOp; exact a_nilEn rfl rfl; apply r_op; exact rfl; exact rfl; apply a_move; (conv => (lhs; whnf)); refine q_split rfl rfl rfl (fun hg => ?_) (fun hg => ?_); apply q_skip
  exact rfl; exact want_f rfl rfl rfl (by assumption); apply q_skip; exact rfl; exact want_f rfl rfl rfl (by assumption); apply r_op; exact rfl; exact rfl; apply g_pick; apply a_pickT rfl (by assumption); (conv => (lhs; whnf)); apply r_op; exact rfl; exact rfl; apply a_move; (conv => (lhs; whnf)); apply q_skip; exact rfl; exact want_f rfl rfl rfl (by exact rfl); apply q_skip; exact rfl
  exact want_f rfl rfl rfl (by exact rfl); apply q_skip; exact rfl; exact want_f rfl rfl rfl (by exact rfl); apply q_skip; exact rfl; exact want_f rfl rfl rfl (by exact rfl); apply q_skip; exact rfl; exact want_f rfl rfl rfl (by exact rfl); apply q_skip; exact rfl; exact want_f rfl rfl rfl (by exact rfl); apply q_skip; exact rfl; exact want_f rfl rfl rfl (by exact rfl); apply q_skip; exact rfl
  exact want_f rfl rfl rfl (by exact rfl); apply r_op; exact rfl; exact rfl; apply g_pick; apply a_pickT rfl (by exact rfl); (conv => (lhs; whnf)); (with_reducible refine runs_done ?_); refine W.condT rfl (by exact rfl) ?_; refine W.seq ?_; refine W.regionL (by decide +kernel) rfl ?_; apply r_op; exact rfl; exact rfl; apply a_assign; (conv => (lhs; whnf)); apply r_op; exact rfl; exact rfl
  apply a_assign; (conv => (lhs; whnf)); apply r_op; exact rfl; exact rfl; apply a_assign; (conv => (lhs; whnf)); apply r_op; exact rfl; exact rfl; apply a_assign; (conv => (lhs; whnf)); apply r_op; exact rfl; exact rfl; apply a_assign; (conv => (lhs; whnf)); (with_reducible refine runs_done ?_); refine W.ret ?_; show Q Exit.ret _ _
  refine post_q hQ (by apply res_tmp; exact rfl; apply res_tmp; exact rfl; apply res_tmp; exact rfl; apply res_tmp; exact rfl; apply res_tmp; exact rfl; exact res_nil) (.inl rfl) (by exact .refl _) ?_; (conv => (lhs; whnf)); rotate_left; apply r_op; exact rfl; exact want_t rfl rfl rfl (by assumption); apply a_move; (conv => (lhs; whnf)); apply r_op; exact rfl
  exact want_t rfl rfl rfl (by assumption); apply g_binOp; exact a_nilEn rfl rfl; apply r_op; exact rfl; exact rfl; apply g_pick; apply a_pickF rfl (by assumption); (conv => (lhs; whnf)); apply r_op; exact rfl; exact rfl; apply a_move; (conv => (lhs; whnf)); refine q_split rfl rfl rfl (fun hg => ?_) (fun hg => ?_); apply q_skip; exact rfl; exact want_f rfl rfl rfl (by assumption); apply q_skip
  exact rfl; exact want_f rfl rfl rfl (by assumption); apply q_skip; exact rfl; exact want_f rfl rfl rfl (by assumption); apply q_skip; exact rfl; exact want_f rfl rfl rfl (by assumption); apply q_skip; exact rfl; exact want_f rfl rfl rfl (by assumption); apply q_skip; exact rfl; exact want_f rfl rfl rfl (by assumption); apply q_skip; exact rfl; exact want_f rfl rfl rfl (by assumption)
  apply q_skip; exact rfl; exact want_f rfl rfl rfl (by assumption); apply r_op; exact rfl; exact rfl; apply g_pick; apply a_pickT rfl (by assumption); (conv => (lhs; whnf)); (with_reducible refine runs_done ?_); refine W.condT rfl (by exact rfl) ?_; refine W.seq ?_; refine W.regionL (by decide +kernel) rfl ?_; apply r_op; exact rfl; exact rfl; apply a_assign; (conv => (lhs; whnf)); apply r_op
  exact rfl; exact rfl; apply a_assign; (conv => (lhs; whnf)); apply r_op; exact rfl; exact rfl; apply a_assign; (conv => (lhs; whnf)); apply r_op; exact rfl; exact rfl; apply a_assign; (conv => (lhs; whnf)); apply r_op; exact rfl; exact rfl; apply a_assign; (conv => (lhs; whnf)); (with_reducible refine runs_done ?_); refine W.ret ?_; show Q Exit.ret _ _
  refine post_q hQ (by apply res_tmp; exact rfl; apply res_tmp; exact rfl; apply res_tmp; exact rfl; apply res_tmp; exact rfl; apply res_tmp; exact rfl; exact res_nil) (.inl rfl) (by exact .refl _) ?_; (conv => (lhs; whnf)); rotate_left; apply r_op; exact rfl; exact want_t rfl rfl rfl (by assumption); apply a_move; (conv => (lhs; whnf)); apply r_op; exact rfl
  exact want_t rfl rfl rfl (by assumption); apply a_move; (conv => (lhs; whnf)); apply r_op; exact rfl; exact want_t rfl rfl rfl (by assumption); apply g_index; exact a_indexS rfl rfl (by omega) (by assumption); apply r_op; exact rfl; exact want_t rfl rfl rfl (by assumption); apply a_move; (conv => (lhs; whnf)); apply r_op; exact rfl; exact want_t rfl rfl rfl (by assumption); apply a_move
  (conv => (lhs; whnf)); apply r_callP; exact rfl; exact rfl; exact want_t rfl rfl rfl (by assumption); exact rfl; exact rfl; infer_instance; exact hK ⟨Int.ofNat_le.1 (Int.not_lt.1 (of_decide_eq_false (by assumption))), Int.ofNat_le.1 (Int.not_lt.1 (of_decide_eq_false (by assumption)))⟩; apply r_op; exact rfl; exact want_t rfl rfl rfl (by assumption); apply a_move; (conv => (lhs; whnf)); apply r_op
  exact rfl; exact want_t rfl rfl rfl (by assumption); apply g_binOp; exact a_binS rfl rfl rfl rfl; apply r_op; exact rfl; exact rfl; apply g_pick; apply a_pickF rfl (by assumption); (conv => (lhs; whnf)); (with_reducible refine runs_done ?_); refine W.cond rfl (fun hc => ?_) (fun hc => ?_); refine W.seq ?_; refine W.regionL (by decide +kernel) rfl ?_; apply r_op; exact rfl; exact rfl; apply a_assign
  (conv => (lhs; whnf)); apply r_op; exact rfl; exact rfl; apply a_assign; (conv => (lhs; whnf)); apply r_op; exact rfl; exact rfl; apply a_assign; (conv => (lhs; whnf)); apply r_op; exact rfl; exact rfl; apply a_assign; (conv => (lhs; whnf)); apply r_op; exact rfl; exact rfl; apply a_assign; (conv => (lhs; whnf)); (with_reducible refine runs_done ?_); refine W.ret ?_; show Q Exit.ret _ _
  refine post_q hQ (by apply res_tmp; exact rfl; apply res_tmp; exact rfl; apply res_tmp; exact rfl; apply res_tmp; exact rfl; apply res_tmp; exact rfl; exact res_nil) (.inl rfl) (by exact .refl _) ?_; (conv => (lhs; whnf)); rotate_left; refine W.skip ?_; show W _ _ _ _ _ _ _; refine W.seq ?_; refine W.regionDK 1 [] Ty.mixed (by decide +kernel) (by decide +kernel) rfl ?_; apply r_op; exact rfl
  exact rfl; apply a_move; (conv => (lhs; whnf)); apply r_op; exact rfl; exact rfl; apply a_move; (conv => (lhs; whnf)); apply r_op; exact rfl; exact rfl; apply g_index; exact a_indexS rfl rfl (by omega) (by assumption); apply r_op; exact rfl; exact rfl; apply a_move; (conv => (lhs; whnf)); apply r_op; exact rfl; exact rfl; apply a_move; (conv => (lhs; whnf)); apply r_op; exact rfl; exact rfl
  apply a_assign; (conv => (lhs; whnf)); apply r_op; exact rfl; exact rfl; apply a_assign; (conv => (lhs; whnf)); apply r_op; exact rfl; exact rfl; apply a_assign; (conv => (lhs; whnf)); apply r_op; exact rfl; exact rfl; apply a_assign; (conv => (lhs; whnf)); apply r_op; exact rfl; exact rfl; apply a_assign; (conv => (lhs; whnf)); (with_reducible refine runs_done ?_); refine W.ret ?_
  show Q Exit.ret _ _; refine post_q hQ (by apply res_tmp; exact rfl; apply res_tmp; exact rfl; apply res_tmp; exact rfl; apply res_tmp; exact rfl; apply res_tmp; exact rfl; exact res_nil) (.inl rfl) (by exact .refl _) ?_; (conv => (lhs; whnf)); rotate_left
  · have hn : parts k = .none := by rw [hp, if_neg (fun h => by have := of_decide_eq_true hg; omega)]
    rw [hn]; rfl
  · have hn : parts k = .none := by rw [hp, if_neg (fun h => by have := of_decide_eq_true hg; omega)]
    rw [hn]; rfl
  · have hn : parts k = .none := by rw [hp, if_neg (fun h => by have := of_decide_eq_true hg; omega)]
    rw [hn]; rfl
  · have hn : parts k = .none := by rw [hp, if_neg (fun h => by have := of_decide_eq_true hc; omega)]
    rw [hn]; rfl
  · have hn : parts k = .none := by
      rw [hp]; split <;> first | rfl | (rw [if_neg]; intro h; rw [h.1] at hg; cases hg)
    rw [hn]; rfl
  · have hn : parts k = .none := by
      rw [hp]; split <;> first | rfl | (rw [if_neg]; intro h; rw [h.2.1] at hg; cases hg)
    rw [hn]; rfl
  · have hn : parts k = .none := by
      rw [hp]; split <;> first | rfl | (rw [if_neg]; intro h; simp [h.2.2] at hc)
    rw [hn]; rfl
  · have h48 : 48 ≤ c0.toNat ∧ c0.toNat ≤ 57 := ⟨Int.ofNat_le.1 (Int.not_lt.1 (of_decide_eq_false (by assumption))), Int.ofNat_le.1 (Int.not_lt.1 (of_decide_eq_false (by assumption)))⟩
    have h97 : 97 ≤ t.toNat ∧ t.toNat ≤ 122 := ⟨Int.ofNat_le.1 (Int.not_lt.1 (of_decide_eq_false (by assumption))), Int.ofNat_le.1 (Int.not_lt.1 (of_decide_eq_false (by assumption)))⟩
    have hba : ba = true := by simpa using ‹(!ba) = false›
    have hbb : bb = true := by simpa using ‹(!bb) = false›
    have hn : parts k = ⟨c0.toNat - 48, t, a, b, true⟩ := by
      rw [hp, if_pos ⟨h0, h48, h97⟩, if_pos ⟨hba, hbb, by simpa using hc⟩]
    rw [hn, ePts, ← sub48 h48]; rfl
end Go.Proofs.YtgliemhhnkhboaaDoor
end
section
set_option linter.unusedVariables false
set_option linter.unusedSimpArgs false
namespace Go.Proofs.YtgliemhhnkhboaaDoor
open Go.Al
def whyN (k : Nat) : List UInt8 := if k = 0 then [] else if k = 1 then [110, 97, 99, 107] else [116, 105, 109, 101]
def rMsg (seq : Int) (v : List UInt8) (a : Nat) (f : Option Nat) : Msg × Nat × Option Nat :=
  let p1 := rText v a f 60
  let p2 := rText v p1.2.1 p1.2.2 30
  let p3 := rNum v p2.2.1 p2.2.2
  let p4 := rNum v p3.2.1 p3.2.2
  let p5 := rNum v p4.2.1 p4.2.2
  let p6 := rNum v p5.2.1 p5.2.2
  (⟨seq, p1.1, p2.1, p3.1, p4.1, decide ((0 : Int) < (p6.1 : Int)), whyN (min p6.1 2), p5.1⟩, p6.2.1, p6.2.2)
def rSub (x : Sub) (v : List UInt8) : Sub × Option Nat :=
  let p1 := rText v 0 none 30
  let p2 := rText v p1.2.1 p1.2.2 30
  let p3 := rText v p2.2.1 p2.2.2 30
  let p4 := rNum v p3.2.1 p3.2.2
  let p5 := rNum v p4.2.1 p4.2.2
  let p6 := rNum v p5.2.1 p5.2.2
  let p7 := rText v p6.2.1 p6.2.2 30
  ({ x with name := p1.1, topic := p2.1, want := p3.1, lease := p4.1, most := p5.1, floor := p6.1, note := p7.1 }, p7.2.2)
def rGaps (v : List UInt8) : Nat → Nat → Option Nat → List Int → List Int × Option Nat
  | 0, _, f, acc => (acc, f)
  | n + 1, a, f, acc => if f = none then rGaps v n (rNum v a f).2.1 (rNum v a f).2.2 (acc ++ [((rNum v a f).1 : Int)]) else (acc, f)
structure D3 where
  x : Sub
  gaps : List Int
  good : Bool
def sub0 : Sub := ⟨0, [], [], [], 0, 0, 0, [], [], []⟩
def dRow (d : D3) (r : Row) : D3 × Option Nat :=
  let p := parts r.key
  let x := { d.x with id := p.id }
  if p.t = 97 then
    let q := rNum r.val 0 none
    let g := rGaps r.val q.1 q.2.1 q.2.2 d.gaps
    (⟨x, g.1, d.good⟩, g.2)
  else if p.t = 113 then
    let m := rMsg p.seq r.val 0 none
    (⟨{ x with queue := x.queue ++ [m.1] }, d.gaps, d.good⟩, m.2.2)
  else if p.t = 115 then
    let s := rSub x r.val
    (⟨s.1, d.gaps, d.good⟩, s.2)
  else (⟨x, d.gaps, d.good⟩, none)
def gtS (a b : List UInt8) : Bool := !(ltS a b || decide (a = b))
def dStep (d : D3) (i : Nat) (prev : List UInt8) (r : Row) : D3 :=
  let q := dRow d r
  { q.1 with good := d.good && (decide (i = 0) || gtS r.key prev) && q.2.isNone }
def dRows (l : List Row) : Nat → D3
  | 0 => ⟨sub0, [], true⟩
  | i + 1 => dStep (dRows l i) i ((l[i - 1]?).getD ⟨[], []⟩).key ((l[i]?).getD ⟨[], []⟩)
def runUp (last : Int) : List Int → List Int
  | [] => []
  | g :: l => w64 (last + g) :: runUp (w64 (last + g)) l
def dSub (l : List Row) : Sub := let d := dRows l l.length; { d.x with acks := runUp d.x.floor d.gaps }
def dec3 (l : List Row) : Sub × Nat := if (dRows l l.length).good = true ∧ enc3 (dSub l) = l then (dSub l, 0) else (sub0, 11)
end Go.Proofs.YtgliemhhnkhboaaDoor
end
section
set_option linter.unusedVariables false
set_option linter.unusedSimpArgs false
namespace Go.Proofs.YtgliemhhnkhboaaDoor
open Go.Al
def tot (l : List Row) : Nat := (l.map fun r => r.val.length + 1).sum
structure DFit (d : D3) (n m : Nat) : Prop where
  name : d.x.name.length ≤ 1000
  topic : d.x.topic.length ≤ 1000
  want : d.x.want.length ≤ 1000
  note : d.x.note.length ≤ 1000
  acks : d.x.acks = []
  gaps : d.gaps.length ≤ n
  queue : d.x.queue.length ≤ m
  msgs : ∀ m ∈ d.x.queue, m.body.length ≤ 1000 ∧ m.attr.length ≤ 1000
end Go.Proofs.YtgliemhhnkhboaaDoor
end
section
set_option linter.unusedVariables false
set_option linter.unusedSimpArgs false
namespace Go.Proofs.YtgliemhhnkhboaaDoor
open Go.Al
theorem ltS_nil (l : List UInt8) : ltS l [] = false := by cases l <;> rfl
theorem ltS_cons (a b : UInt8) (l m : List UInt8) : ltS (a :: l) (b :: m) = (decide (a < b) || (a == b && ltS l m)) := rfl
theorem ltS_irr : ∀ l : List UInt8, ltS l l = false
  | [] => rfl
  | a :: l => by rw [ltS_cons, ltS_irr l]; simp
theorem ltS_app : ∀ (p l m : List UInt8), ltS (p ++ l) (p ++ m) = ltS l m
  | [], l, m => rfl
  | a :: p, l, m => by rw [List.cons_append, List.cons_append, ltS_cons, ltS_app p]; simp
theorem ltS_same : ∀ (p q l m : List UInt8), p.length = q.length → ltS p q = true → ltS (p ++ l) (q ++ m) = true
  | [], [], l, m, _, h => by cases h
  | a :: p, b :: q, l, m, hl, h => by
    rw [ltS_cons] at h
    rw [List.cons_append, List.cons_append, ltS_cons]
    simp only [Bool.or_eq_true, Bool.and_eq_true] at h ⊢
    exact h.imp id fun h => ⟨h.1, ltS_same p q l m (by simpa using hl) h.2⟩
theorem ltS_asymm : ∀ (l m : List UInt8), ltS l m = true → ltS m l = false
  | l, [], h => by rw [ltS_nil] at h; cases h
  | [], b :: m, _ => rfl
  | a :: l, b :: m, h => by
    rw [ltS_cons] at h ⊢
    simp only [Bool.or_eq_true, Bool.and_eq_true, decide_eq_true_eq, beq_iff_eq] at h
    simp only [Bool.or_eq_false_iff, Bool.and_eq_false_iff, decide_eq_false_iff_not]
    rcases h with h | ⟨rfl, h⟩
    · have hn : a.toNat < b.toNat := h
      refine ⟨fun h' => ?_, .inl ?_⟩
      · have : b.toNat < a.toNat := h'
        omega
      · rw [beq_eq_false_iff_ne]
        rintro rfl
        omega
    · exact ⟨fun h' => by have : a.toNat < a.toNat := h'; omega, .inr (ltS_asymm l m h)⟩
theorem dN_lt : ∀ (k a b : Nat), a < b → b < 10 ^ k → ltS (dN k a) (dN k b) = true
  | 0, a, b, h, hb => by simp at hb; omega
  | k + 1, a, b, h, hb => by
    rw [dN, dN]
    have hb' : b / 10 < 10 ^ k := by rw [Nat.pow_succ] at hb; omega
    by_cases hq : a / 10 < b / 10
    · exact ltS_same _ _ _ _ (by rw [dN_length, dN_length]) (dN_lt k _ _ hq hb')
    · have he : a / 10 = b / 10 := by omega
      rw [he, ltS_app, ltS_cons]
      have h1 : (dig a).toNat = 48 + a % 10 := by rw [dig, byte_val (by omega)]
      have h2 : (dig b).toNat = 48 + b % 10 := by rw [dig, byte_val (by omega)]
      have : dig a < dig b := by show (dig a).toNat < (dig b).toNat; omega
      simp [this]
def Up (l : List Row) : Prop := l.Pairwise fun a b => ltS a.key b.key = true
theorem Up.get {l : List Row} (h : Up l) {i : Nat} {a b : Row} (ha : l[i]? = some a) (hb : l[i + 1]? = some b) : ltS a.key b.key = true := by
  obtain ⟨h1, rfl⟩ := List.getElem?_eq_some_iff.1 ha
  obtain ⟨h2, rfl⟩ := List.getElem?_eq_some_iff.1 hb
  exact List.pairwise_iff_getElem.1 h i (i + 1) h1 h2 (by omega)
end Go.Proofs.YtgliemhhnkhboaaDoor
end
section
set_option linter.unusedVariables false
set_option linter.unusedSimpArgs false
namespace Go.Proofs.YtgliemhhnkhboaaDoor
open Go.Al
theorem ltS_pre {p q : List UInt8} (l m : List UInt8) (h : p.length = q.length) : ltS (p ++ l) (q ++ m) = (ltS p q || (decide (p = q) && ltS l m)) := by
  by_cases e : p = q
  · subst e
    rw [ltS_app, ltS_irr]; simp
  · cases h1 : ltS p q with
    | true => rw [ltS_same _ _ _ _ h h1]; rfl
    | false =>
      have h2 : ltS q p = true := by
        clear l m
        induction p generalizing q with
        | nil => cases q with
          | nil => exact absurd rfl e
          | cons b q => cases h
        | cons a p ih => cases q with
          | nil => cases h
          | cons b q =>
            rw [ltS_cons] at h1 ⊢
            simp only [Bool.or_eq_false_iff, Bool.and_eq_false_iff, decide_eq_false_iff_not] at h1
            by_cases hab : a = b
            · subst hab
              have h3 : ltS p q = false := by rcases h1.2 with h | h; · simp at h
                                              · exact h
              have := ih (by simpa using h) (fun e' => e (by rw [e'])) h3
              simp [this]
            · have h4 : b < a := by
                have h5 := h1.1
                have h6 : a.toNat ≠ b.toNat := fun e' => hab (UInt8.toNat_inj.1 e')
                have h7 : ¬ a.toNat < b.toNat := h5
                show b.toNat < a.toNat
                omega
              simp [h4]
      have := ltS_same _ _ m l h.symm h2
      rw [ltS_asymm _ _ this]
      simp [e]
theorem ltS_dN {a b : Nat} (k : Nat) (ha : a < 10 ^ k) (hb : b < 10 ^ k) : ltS (dN k a) (dN k b) = decide (a < b) := by
  rcases Nat.lt_trichotomy a b with h | h | h
  · rw [dN_lt k a b h hb]; simp [h]
  · subst h; rw [ltS_irr]; simp
  · rw [ltS_asymm _ _ (dN_lt k b a h ha)]; simp; omega
theorem rkey_less {i j : Nat} (hi : i < 10) (hj : j < 10) (t u : UInt8) {x y m n : Nat} (hx : x < 1000000000) (hy : y < 1000000000) (hm : m < 1000000000) (hn : n < 1000000000) :
    ltS (rkey i t x m) (rkey j u y n) = (decide (i < j) || (decide (i = j) && (decide (t.toNat < u.toNat) || (decide (t = u) && (decide (x < y) || (decide (x = y) && decide (m < n))))))) := by
  have hc : ∀ {a : Nat}, a < 1000000000 → cl a = a := fun {a} h => by unfold cl; omega
  rw [rkey, rkey, hc hx, hc hy, hc hm, hc hn, List.append_assoc, List.append_assoc]
  show ltS (UInt8.ofNat (48 + i) :: t :: (dN 10 x ++ dN 10 m)) (UInt8.ofNat (48 + j) :: u :: (dN 10 y ++ dN 10 n)) = _
  rw [ltS_cons, ltS_cons, ltS_pre _ _ (by rw [dN_length, dN_length]), ltS_dN 10 (by omega) (by omega), ltS_dN 10 (by omega) (by omega)]
  have e1 : decide (UInt8.ofNat (48 + i) < UInt8.ofNat (48 + j)) = decide (i < j) := decide_eq_decide.2 (by
    show (UInt8.ofNat (48 + i)).toNat < (UInt8.ofNat (48 + j)).toNat ↔ _
    rw [byte_val (by omega), byte_val (by omega)]; omega)
  have e2 : (UInt8.ofNat (48 + i) == UInt8.ofNat (48 + j)) = decide (i = j) := by
    rw [Bool.eq_iff_iff, beq_iff_eq, decide_eq_true_iff, ← UInt8.toNat_inj, byte_val (by omega), byte_val (by omega)]; omega
  have e3 : decide (dN 10 x = dN 10 y) = decide (x = y) := decide_eq_decide.2 ⟨fun h => dN_inj (by omega) (by omega) h, fun h => by rw [h]⟩
  have e4 : decide (t < u) = decide (t.toNat < u.toNat) := rfl
  have e5 : (t == u) = decide (t = u) := rfl
  rw [e1, e2, e3, e4, e5]
end Go.Proofs.YtgliemhhnkhboaaDoor
end
section
set_option linter.unusedVariables false
set_option linter.unusedSimpArgs false
set_option maxRecDepth 100000
set_option maxHeartbeats 1000000
namespace Go.Proofs.YtgliemhhnkhboaaDoor
open Go.Al Go.RowKit
theorem between_any (w0 : Base) (n a b : Int) : CallP Tryd.prog w0 22 [.int .i64 n, .int .i64 a, .int .i64 b] (.bool (decide (a ≤ n) && decide (n ≤ b))) := by
  refine CallP.h Ty.tok Ty.mixed Tryd.func22 rfl Tryd.ntmps22 rfl (by simp) (by decide +kernel) fun σ => ?_
  (conv => whnf); refine Hid.seq ?_; refine Hid.reg ?_; (conv => whnf); refine Hid.seq ?_; refine Hid.reg ?_; (conv => whnf); refine SCond.mk (fun hc => ?_) (fun hc => ?_); (conv => whnf); rotate_left; (conv => whnf)
  rotate_right
  refine SCond.y (by assumption) ?_; (conv => whnf); refine SCond.y (by assumption) ?_; (conv => whnf); refine SPick.y (by assumption) ?_; (conv => whnf); refine Hid.ret ?_; (conv => whnf); rotate_left; refine SCond.n (by assumption) ?_; (conv => whnf); refine SCond.n (by assumption) ?_; (conv => whnf); refine SPick.n (by assumption) ?_; (conv => whnf); refine Hid.ret ?_; (conv => whnf)
  rotate_left
  · exact .p (.refl _) (by simp [hc])
  · exact .p (.refl _) (by simp [hc])
theorem rightA_any (w0 : Base) : CallP Tryd.prog w0 15 [.agg [.int .i64 0, .int .i64 1, .int .i64 0, .nils]] (.bool true) := by
  refine CallP.h Ty.tok Ty.mixed Tryd.func15 rfl Tryd.ntmps15 rfl (by simp) (by decide +kernel) fun σ => ?_
  (conv => whnf); refine Hid.seq ?_; refine Hid.reg ?_; (conv => whnf); refine SBox.f ?_; (conv => whnf); refine Hid.seq ?_; refine Hid.seq ?_; refine Hid.reg ?_; (conv => whnf); refine SCall.p (by exact between_any w0 _ _ _) ?_; (conv => whnf); refine SCond.n (by exact rfl) ?_; (conv => whnf); refine SCond.n (by exact rfl) ?_; (conv => whnf); refine SCond.n (by exact rfl) ?_; (conv => whnf)
  refine SCall.p (by exact between_any w0 _ _ _) ?_; (conv => whnf); refine SCond.n (by exact rfl) ?_; (conv => whnf); refine SPick.n (by exact rfl) ?_; (conv => whnf); refine SCond.n (by exact rfl) ?_; (conv => whnf); refine SCond.n (by exact rfl) ?_; (conv => whnf); refine SCond.n (by exact rfl) ?_; (conv => whnf); refine SCall.p (by exact between_any w0 _ _ _) ?_; (conv => whnf)
  refine SCond.n (by exact rfl) ?_; (conv => whnf); refine SPick.n (by exact rfl) ?_; (conv => whnf); refine SCond.n (by exact rfl) ?_; (conv => whnf); refine SCond.n (by exact rfl) ?_; (conv => whnf); refine SCond.n (by exact rfl) ?_; (conv => whnf); refine SCond.n (by exact rfl) ?_; (conv => whnf); refine SPick.n (by exact rfl) ?_; (conv => whnf); refine Hid.cond rfl ?_
  refine SIf.n Ty.mixed (by exact rfl) ?_; refine Xc_h ?_; (conv => whnf); refine Hid.skip ?_; (conv => whnf); refine Hid.seq ?_; refine Hid.reg ?_; (conv => whnf); refine Hid.seq ?_; refine Hid.seq ?_; refine Hid.reg ?_; (conv => whnf); refine Hid.block ?_; refine Hid.loop ?_
  refine SLoop.by Ty.mixed (fun _ => 0) (fun _ : Unit => [(30, .int .i64 0), (31, .int .i64 0)]) (fun _ => []) (fun _ s => St.Le σ s) () ⟨by repeat (first | exact trivial | refine ⟨by first | trivial | exact Weak.refl _ | exact Weak.tok _ _ _ | exact Weak.of_eq (congrArg (AV.int _) (by omega)) | exact Weak.of_eq (congrArg AV.bool (by fail)) | exact Weak.nils _ _ (.inr rfl), ?_⟩), .none _, by repeat (first | assumption | exact .refl _ | refine le_new2 ?_ (by assumption) | refine le_new ?_ (by assumption) | refine le_setBox ?_ (by first | assumption | exact none_in (by assumption) | exact none_in (none_in (by assumption)) | exact none_in (none_in (none_in (by assumption))) | fail) | exact Moves.le (by assumption) | refine .trans ?_ (Moves.le (by assumption)))⟩ ?_
  rintro _ s hs; refine Xc_h ?_; (conv => whnf); refine Hid.seq ?_; refine Hid.reg ?_; (conv => whnf); refine Hid.seq ?_; refine Hid.cond rfl ?_; refine SIf.n Ty.mixed (by exact rfl) ?_; refine Xc_h ?_; (conv => whnf); refine Hid.exit ?_; (conv => whnf); refine Hid.seq ?_; refine Hid.reg ?_; (conv => whnf); refine Hid.ret ?_; (conv => whnf); exact .p hs rfl
theorem rightB_any (w0 : Base) : CallP Tryd.prog w0 15 [.agg [.int .i64 0, .int .i64 0, .int .i64 0, .nils]] (.bool false) := by
  refine CallP.h Ty.tok Ty.mixed Tryd.func15 rfl Tryd.ntmps15 rfl (by simp) (by decide +kernel) fun σ => ?_
  (conv => whnf); refine Hid.seq ?_; refine Hid.reg ?_; (conv => whnf); refine SBox.f ?_; (conv => whnf); refine Hid.seq ?_; refine Hid.seq ?_; refine Hid.reg ?_; (conv => whnf); refine SCall.p (by exact between_any w0 _ _ _) ?_; (conv => whnf); refine SCond.n (by exact rfl) ?_; (conv => whnf); refine SCond.n (by exact rfl) ?_; (conv => whnf); refine SCond.n (by exact rfl) ?_; (conv => whnf)
  refine SCall.p (by exact between_any w0 _ _ _) ?_; (conv => whnf); refine SCond.n (by exact rfl) ?_; (conv => whnf); refine SPick.n (by exact rfl) ?_; (conv => whnf); refine SCond.y (by exact rfl) ?_; (conv => whnf); refine SCond.y (by exact rfl) ?_; (conv => whnf); refine SCond.y (by exact rfl) ?_; (conv => whnf); refine SCond.y (by exact rfl) ?_; (conv => whnf); refine SPick.y (by exact rfl) ?_
  (conv => whnf); refine SCond.y (by exact rfl) ?_; (conv => whnf); refine SCond.y (by exact rfl) ?_; (conv => whnf); refine SCond.y (by exact rfl) ?_; (conv => whnf); refine SCond.y (by exact rfl) ?_; (conv => whnf); refine SPick.y (by exact rfl) ?_; (conv => whnf); refine Hid.cond rfl ?_; refine SIf.y Ty.mixed (by exact rfl) ?_; refine Xc_h ?_; (conv => whnf); refine Hid.seq ?_; refine Hid.reg ?_
  (conv => whnf); refine Hid.ret ?_; (conv => whnf); exact .p (.refl _) rfl
theorem rkey_known : rkey 1 115 2 0 = [49, 115, 48, 48, 48, 48, 48, 48, 48, 48, 48, 50, 48, 48, 48, 48, 48, 48, 48, 48, 48, 48] := by decide +kernel
theorem known10_any (w0 : Base) (hL : Laid w0) : CallP Tryd.prog w0 7 [] (.bool true) := by
  refine CallP.h Ty.tok Ty.mixed Tryd.func7 rfl Tryd.ntmps7 rfl (by simp) (by decide +kernel) fun σ => ?_
  have h1 := partsS_any w0 hL (rkey 1 115 2 0) (by rw [rkey_length]; decide)
  rw [parts_rkey (by decide) (by decide), rkey_known] at h1
  have h2 := keyS_any w0 hL 1 (by decide) 115 2 0
  rw [rkey_known] at h2
  (conv => whnf); refine Hid.seq ?_; refine Hid.reg ?_; (conv => whnf); refine Hid.seq ?_; refine Hid.reg ?_; (conv => whnf); refine SCall.p (by exact h1) ?_; (conv => whnf); refine Hid.seq ?_; refine Hid.reg ?_; (conv => whnf); refine SCall.p (by exact h2) ?_; (conv => whnf); refine SCond.y (by exact rfl) ?_; (conv => whnf); refine SPick.y (by exact rfl) ?_; (conv => whnf)
  refine SCond.y (by exact rfl) ?_; (conv => whnf); refine SCond.y (by exact rfl) ?_; (conv => whnf); refine SPick.y (by exact rfl) ?_; (conv => whnf); refine SCond.y (by exact rfl) ?_; (conv => whnf); refine SCond.y (by exact rfl) ?_; (conv => whnf); refine SPick.y (by exact rfl) ?_; (conv => whnf); refine SCond.y (by exact rfl) ?_; (conv => whnf); refine SCond.y (by exact rfl) ?_; (conv => whnf)
  refine SPick.y (by exact rfl) ?_; (conv => whnf); refine SCond.y (by exact rfl) ?_; (conv => whnf); refine SCond.y (by exact rfl) ?_; (conv => whnf); refine SPick.y (by exact rfl) ?_; (conv => whnf); refine SCond.y (by exact rfl) ?_; (conv => whnf); refine SCond.y (by exact rfl) ?_; (conv => whnf); refine SCall.p (by exact rightA_any w0) ?_; (conv => whnf); refine SPick.y (by exact rfl) ?_
  (conv => whnf); refine SCond.y (by exact rfl) ?_; (conv => whnf); refine SCond.y (by exact rfl) ?_; (conv => whnf); refine SCall.p (by exact rightB_any w0) ?_; (conv => whnf); refine SCond.y (by exact rfl) ?_; (conv => whnf); refine SPick.y (by exact rfl) ?_; (conv => whnf); refine Hid.ret ?_; (conv => whnf); exact .p (.refl _) rfl
end Go.Proofs.YtgliemhhnkhboaaDoor
end
section
set_option linter.unusedVariables false
set_option linter.unusedSimpArgs false
set_option maxRecDepth 100000
set_option maxHeartbeats 1000000
namespace Go.Proofs.YtgliemhhnkhboaaDoor
open Go.Al Go.RowKit
theorem stateKeyed_any (w0 : Base) (hL : Laid w0) (v w t u : UInt8) (a b c d : Nat) (ha : a < 4294967296) (hb : b < 4294967296) (hc : c < 4294967296) (hd : d < 4294967296) (σ : St) : CallW Tryd.prog w0 3 [.int .u8 v.toNat, .int .u8 w.toNat, .int .u8 t.toNat, .int .u8 u.toNat, .int .u32 (a : Nat), .int .u32 (b : Nat), .int .u32 (c : Nat), .int .u32 (d : Nat)] σ (fun r _ => r = .bool true) := by
  refine CallW.h Ty.tok Ty.mixed Tryd.func3 rfl Tryd.ntmps3 rfl (by simp) (by decide +kernel) (.nil σ) ?_; (conv => whnf); refine Hid.seq ?_; refine Hid.reg ?_; (conv => whnf); refine Hid.seq ?_; refine Hid.reg ?_; (conv => whnf); refine And.intro (by omega) ?_; (conv => whnf); refine ⟨_, IntWalk.i64_in _ (by omega), ?_⟩; (conv => whnf)
  refine Hid.seq ?_; refine Hid.reg ?_; (conv => whnf); refine And.intro (by omega) ?_; (conv => whnf); refine ⟨_, IntWalk.i64_in _ (by omega), ?_⟩; (conv => whnf); refine Hid.seq ?_; refine Hid.reg ?_; (conv => whnf); refine And.intro (by omega) ?_; (conv => whnf); refine ⟨_, IntWalk.i64_in _ (by omega), ?_⟩; (conv => whnf); refine Hid.seq ?_; refine Hid.reg ?_; (conv => whnf)
  refine And.intro (by omega) ?_; (conv => whnf); refine ⟨_, IntWalk.i64_in _ (by omega), ?_⟩; (conv => whnf); refine Hid.seq ?_; refine Hid.reg ?_; (conv => whnf); refine And.intro (by omega) ?_; (conv => whnf); refine ⟨_, IntWalk.i64_in _ (by omega), ?_⟩; (conv => whnf); refine Hid.seq ?_; refine Hid.reg ?_; (conv => whnf); refine And.intro (by omega) ?_; (conv => whnf)
  refine ⟨_, IntWalk.i64_in _ (by omega), ?_⟩; (conv => whnf); refine Hid.seq ?_; refine Hid.reg ?_; (conv => whnf); refine And.intro (by omega) ?_; (conv => whnf); refine Hid.seq ?_; refine Hid.reg ?_; (conv => whnf); refine And.intro (by omega) ?_; (conv => whnf); refine Hid.seq ?_; refine Hid.reg ?_; (conv => whnf)
  generalize hx : (a : Int) % 1000000000 = x'
  generalize hy : (b : Int) % 1000000000 = y'
  generalize hm : (c : Int) % 1000000000 = m'
  generalize hn : (d : Int) % 1000000000 = n'
  generalize hi : (v.toNat : Int) % 10 = i'
  generalize hj : (w.toNat : Int) % 10 = j'
  have bt : (97 + (t.toNat : Int) % 26) = ((97 + t.toNat % 26 : Nat) : Int) := by omega
  have bu : (97 + (u.toNat : Int) % 26) = ((97 + u.toNat % 26 : Nat) : Int) := by omega
  have ht : 97 ≤ (Al.byteOf (97 + (t.toNat : Int) % 26)).toNat ∧ (Al.byteOf (97 + (t.toNat : Int) % 26)).toNat ≤ 122 := by rw [bt, byteOf_nat, byte_val (by omega)]; omega
  have hu : 97 ≤ (Al.byteOf (97 + (u.toNat : Int) % 26)).toNat ∧ (Al.byteOf (97 + (u.toNat : Int) % 26)).toNat ≤ 122 := by rw [bu, byteOf_nat, byte_val (by omega)]; omega
  generalize Al.byteOf (97 + (t.toNat : Int) % 26) = p at *
  generalize Al.byteOf (97 + (u.toNat : Int) % 26) = q at *
  clear bt bu
  obtain ⟨x, rfl⟩ : ∃ x : Nat, x' = x := ⟨x'.toNat, by omega⟩
  obtain ⟨y, rfl⟩ : ∃ x : Nat, y' = x := ⟨y'.toNat, by omega⟩
  obtain ⟨m, rfl⟩ : ∃ x : Nat, m' = x := ⟨m'.toNat, by omega⟩
  obtain ⟨n, rfl⟩ : ∃ x : Nat, n' = x := ⟨n'.toNat, by omega⟩
  obtain ⟨i, rfl⟩ : ∃ x : Nat, i' = x := ⟨i'.toNat, by omega⟩
  obtain ⟨j, rfl⟩ : ∃ x : Nat, j' = x := ⟨j'.toNat, by omega⟩
  replace hx : x < 1000000000 := by omega
  replace hy : y < 1000000000 := by omega
  replace hm : m < 1000000000 := by omega
  replace hn : n < 1000000000 := by omega
  replace hi : i < 10 := by omega
  replace hj : j < 10 := by omega
  have hcl : ∀ {a : Nat}, a < 1000000000 → cl a = a := fun {a} h => by unfold cl; omega
  have k1 := keyS_any w0 hL i hi p x m
  have k2 := keyS_any w0 hL j hj q y n
  have h1 := partsS_any w0 hL (rkey i p x m) (by rw [rkey_length]; decide)
  rw [parts_rkey hi ht, hcl hx, hcl hm] at h1
  have hl := rkey_less hi hj p q hx hy hm hn
  have hl' : ltS (rkey i p x m) (rkey j q y n) = (decide ((i : Int) < (j : Int)) || (decide ((i : Int) = (j : Int)) && (decide ((p.toNat : Int) < (q.toNat : Int)) || (decide ((p.toNat : Int) = (q.toNat : Int)) && (decide ((x : Int) < (y : Int)) || (decide ((x : Int) = (y : Int)) && decide ((m : Int) < (n : Int)))))))) := by
    rw [hl]
    simp only [Int.ofNat_lt, Int.natCast_inj, UInt8.toNat_inj]
  replace hl := hl'
  clear hl'
  have hkn := known10_any w0 hL
  generalize rkey i p x m = r1 at *
  generalize rkey j q y n = r2 at *
  refine SCond.mk (fun hc => ?_) (fun hc => ?_); (conv => whnf); rotate_left; (conv => whnf)
  rotate_right
  refine SCond.y (by assumption) ?_; (conv => whnf); refine SCond.y (by assumption) ?_; (conv => whnf); refine SCond.y (by assumption) ?_; (conv => whnf); refine SCond.y (by assumption) ?_; (conv => whnf); refine SPick.y (by assumption) ?_; (conv => whnf); refine Hid.seq ?_; refine Hid.reg ?_; (conv => whnf); refine SCall.p (by exact k1) ?_; (conv => whnf); refine SCall.p (by exact h1) ?_
  (conv => whnf); refine Hid.seq ?_; refine Hid.reg ?_; (conv => whnf); refine SCall.p (by exact hkn) ?_; (conv => whnf); refine SCond.y (by exact rfl) ?_; (conv => whnf); refine SCond.y (by exact rfl) ?_; (conv => whnf); refine SCond.y (by exact rfl) ?_; (conv => whnf); refine SCond.y (by exact rfl) ?_; (conv => whnf); refine SCond.y (by exact rfl) ?_; (conv => whnf)
  refine SCall.p (by exact k1) ?_; (conv => whnf); refine SCond.y (by exact rfl) ?_; (conv => whnf); refine SCond.y (by exact rfl) ?_; (conv => whnf); refine SCond.y (by exact rfl) ?_; (conv => whnf); refine SCond.y (by exact rfl) ?_; (conv => whnf); refine SCond.y (by exact rfl) ?_; (conv => whnf); refine SCall.p (by exact k2) ?_; (conv => whnf); refine SCond.y (by exact rfl) ?_; (conv => whnf)
  refine SCond.y (by exact rfl) ?_; (conv => whnf); refine SCond.y (by exact rfl) ?_; (conv => whnf); refine SPick.y (by exact rfl) ?_; (conv => whnf); refine SCond.mk (fun hc => ?_) (fun hc => ?_); (conv => whnf); rotate_left; (conv => whnf)
  rotate_right
  refine SPick.y (by assumption) ?_; (conv => whnf); refine SCond.y (by exact rfl) ?_; (conv => whnf); refine SCond.y (by exact rfl) ?_; (conv => whnf); refine SCond.y (by exact rfl) ?_; (conv => whnf); refine SPick.y (by exact rfl) ?_; (conv => whnf); refine SCond.y (by exact decide_eq_true rfl) ?_; (conv => whnf); refine SCond.y (by exact decide_eq_true rfl) ?_; (conv => whnf)
  refine SCond.y (by exact decide_eq_true rfl) ?_; (conv => whnf); refine SPick.y (by exact decide_eq_true rfl) ?_; (conv => whnf); refine SCond.y (by exact decide_eq_true rfl) ?_; (conv => whnf); refine SCond.y (by exact decide_eq_true rfl) ?_; (conv => whnf); refine SCond.y (by exact decide_eq_true rfl) ?_; (conv => whnf); refine SPick.y (by exact decide_eq_true rfl) ?_; (conv => whnf)
  refine SCond.y (by exact decide_eq_true rfl) ?_; (conv => whnf); refine SCond.y (by exact decide_eq_true rfl) ?_; (conv => whnf); refine SCond.y (by exact decide_eq_true rfl) ?_; (conv => whnf); refine SPick.y (by exact decide_eq_true rfl) ?_; (conv => whnf); refine Hid.ret ?_; (conv => whnf); rotate_left; refine SPick.n (by assumption) ?_; (conv => whnf); refine SCond.n (by exact rfl) ?_
  (conv => whnf); refine SCond.n (by exact rfl) ?_; (conv => whnf); refine SCond.n (by exact rfl) ?_; (conv => whnf); refine SPick.n (by exact rfl) ?_; (conv => whnf); refine SCond.n (by exact rfl) ?_; (conv => whnf); refine SCond.n (by exact rfl) ?_; (conv => whnf); refine SCond.n (by exact rfl) ?_; (conv => whnf); refine SPick.n (by exact rfl) ?_; (conv => whnf); refine SCond.n (by exact rfl) ?_
  (conv => whnf); refine SCond.n (by exact rfl) ?_; (conv => whnf); refine SCond.n (by exact rfl) ?_; (conv => whnf); refine SPick.n (by exact rfl) ?_; (conv => whnf); refine SCond.n (by exact rfl) ?_; (conv => whnf); refine SCond.n (by exact rfl) ?_; (conv => whnf); refine SCond.n (by exact rfl) ?_; (conv => whnf); refine SPick.n (by exact rfl) ?_; (conv => whnf); refine Hid.ret ?_; (conv => whnf)
  rotate_left; refine SCond.n (by assumption) ?_; (conv => whnf); refine SCond.n (by assumption) ?_; (conv => whnf); refine SCond.n (by assumption) ?_; (conv => whnf); refine SCond.mk (fun hc => ?_) (fun hc => ?_); (conv => whnf); rotate_left; (conv => whnf)
  rotate_right
  refine SCond.y (by assumption) ?_; (conv => whnf); refine SCond.y (by assumption) ?_; (conv => whnf); refine SCond.y (by assumption) ?_; (conv => whnf); refine SCond.mk (fun hc => ?_) (fun hc => ?_); (conv => whnf); rotate_left; (conv => whnf)
  rotate_right
  refine SCond.y (by assumption) ?_; (conv => whnf); refine SCond.y (by assumption) ?_; (conv => whnf); refine SCond.y (by assumption) ?_; (conv => whnf); refine SCond.y (by assumption) ?_; (conv => whnf); refine SCond.y (by assumption) ?_; (conv => whnf); refine SPick.y (by assumption) ?_; (conv => whnf); refine SCond.n (by assumption) ?_; (conv => whnf); refine SPick.y (by assumption) ?_
  (conv => whnf); refine SPick.n (by assumption) ?_; (conv => whnf); refine Hid.seq ?_; refine Hid.reg ?_; (conv => whnf); refine SCall.p (by exact k1) ?_; (conv => whnf); refine SCall.p (by exact h1) ?_; (conv => whnf); refine Hid.seq ?_; refine Hid.reg ?_; (conv => whnf); refine SCall.p (by exact hkn) ?_; (conv => whnf); refine SCond.y (by exact rfl) ?_; (conv => whnf)
  refine SCond.y (by exact rfl) ?_; (conv => whnf); refine SCond.y (by exact rfl) ?_; (conv => whnf); refine SCond.y (by exact rfl) ?_; (conv => whnf); refine SCond.y (by exact rfl) ?_; (conv => whnf); refine SCall.p (by exact k1) ?_; (conv => whnf); refine SCond.y (by exact rfl) ?_; (conv => whnf); refine SCond.y (by exact rfl) ?_; (conv => whnf); refine SCond.y (by exact rfl) ?_; (conv => whnf)
  refine SCond.y (by exact rfl) ?_; (conv => whnf); refine SCond.y (by exact rfl) ?_; (conv => whnf); refine SCall.p (by exact k2) ?_; (conv => whnf); refine SCond.y (by exact rfl) ?_; (conv => whnf); refine SCond.y (by exact rfl) ?_; (conv => whnf); refine SCond.y (by exact rfl) ?_; (conv => whnf); refine SPick.y (by exact rfl) ?_; (conv => whnf); refine SCond.mk (fun hc => ?_) (fun hc => ?_)
  (conv => whnf); rotate_left; (conv => whnf)
  rotate_right
  refine SPick.y (by assumption) ?_; (conv => whnf); refine SCond.y (by exact rfl) ?_; (conv => whnf); refine SCond.y (by exact rfl) ?_; (conv => whnf); refine SCond.y (by exact rfl) ?_; (conv => whnf); refine SPick.y (by exact rfl) ?_; (conv => whnf); refine SCond.y (by exact decide_eq_true rfl) ?_; (conv => whnf); refine SCond.y (by exact decide_eq_true rfl) ?_; (conv => whnf)
  refine SCond.y (by exact decide_eq_true rfl) ?_; (conv => whnf); refine SPick.y (by exact decide_eq_true rfl) ?_; (conv => whnf); refine SCond.y (by exact decide_eq_true rfl) ?_; (conv => whnf); refine SCond.y (by exact decide_eq_true rfl) ?_; (conv => whnf); refine SCond.y (by exact decide_eq_true rfl) ?_; (conv => whnf); refine SPick.y (by exact decide_eq_true rfl) ?_; (conv => whnf)
  refine SCond.y (by exact decide_eq_true rfl) ?_; (conv => whnf); refine SCond.y (by exact decide_eq_true rfl) ?_; (conv => whnf); refine SCond.y (by exact decide_eq_true rfl) ?_; (conv => whnf); refine SPick.y (by exact decide_eq_true rfl) ?_; (conv => whnf); refine Hid.ret ?_; (conv => whnf); rotate_left; refine SPick.n (by assumption) ?_; (conv => whnf); refine SCond.n (by exact rfl) ?_
  (conv => whnf); refine SCond.n (by exact rfl) ?_; (conv => whnf); refine SCond.n (by exact rfl) ?_; (conv => whnf); refine SPick.n (by exact rfl) ?_; (conv => whnf); refine SCond.n (by exact rfl) ?_; (conv => whnf); refine SCond.n (by exact rfl) ?_; (conv => whnf); refine SCond.n (by exact rfl) ?_; (conv => whnf); refine SPick.n (by exact rfl) ?_; (conv => whnf); refine SCond.n (by exact rfl) ?_
  (conv => whnf); refine SCond.n (by exact rfl) ?_; (conv => whnf); refine SCond.n (by exact rfl) ?_; (conv => whnf); refine SPick.n (by exact rfl) ?_; (conv => whnf); refine SCond.n (by exact rfl) ?_; (conv => whnf); refine SCond.n (by exact rfl) ?_; (conv => whnf); refine SCond.n (by exact rfl) ?_; (conv => whnf); refine SPick.n (by exact rfl) ?_; (conv => whnf); refine Hid.ret ?_; (conv => whnf)
  rotate_left; refine SCond.n (by assumption) ?_; (conv => whnf); refine SCond.n (by assumption) ?_; (conv => whnf); refine SCond.n (by assumption) ?_; (conv => whnf); refine SCond.mk (fun hc => ?_) (fun hc => ?_); (conv => whnf); rotate_left; (conv => whnf)
  rotate_right
  refine SCond.y (by assumption) ?_; (conv => whnf); refine SCond.y (by assumption) ?_; (conv => whnf); refine SCond.y (by assumption) ?_; (conv => whnf); refine SCond.mk (fun hc => ?_) (fun hc => ?_); (conv => whnf); rotate_left; (conv => whnf)
  rotate_right
  refine SCond.y (by assumption) ?_; (conv => whnf); refine SCond.y (by assumption) ?_; (conv => whnf); refine SCond.y (by assumption) ?_; (conv => whnf); refine SCond.y (by assumption) ?_; (conv => whnf); refine SCond.y (by assumption) ?_; (conv => whnf); refine SPick.y (by assumption) ?_; (conv => whnf); refine SCond.n (by assumption) ?_; (conv => whnf); refine SPick.y (by assumption) ?_
  (conv => whnf); refine SCond.y (by assumption) ?_; (conv => whnf); refine SPick.n (by assumption) ?_; (conv => whnf); refine SCond.n (by assumption) ?_; (conv => whnf); refine SPick.y (by assumption) ?_; (conv => whnf); refine SPick.n (by assumption) ?_; (conv => whnf); refine Hid.seq ?_; refine Hid.reg ?_; (conv => whnf); refine SCall.p (by exact k1) ?_; (conv => whnf)
  refine SCall.p (by exact h1) ?_; (conv => whnf); refine Hid.seq ?_; refine Hid.reg ?_; (conv => whnf); refine SCall.p (by exact hkn) ?_; (conv => whnf); refine SCond.y (by exact rfl) ?_; (conv => whnf); refine SCond.y (by exact rfl) ?_; (conv => whnf); refine SCond.y (by exact rfl) ?_; (conv => whnf); refine SCond.y (by exact rfl) ?_; (conv => whnf); refine SCond.y (by exact rfl) ?_
  (conv => whnf); refine SCall.p (by exact k1) ?_; (conv => whnf); refine SCond.y (by exact rfl) ?_; (conv => whnf); refine SCond.y (by exact rfl) ?_; (conv => whnf); refine SCond.y (by exact rfl) ?_; (conv => whnf); refine SCond.y (by exact rfl) ?_; (conv => whnf); refine SCond.y (by exact rfl) ?_; (conv => whnf); refine SCall.p (by exact k2) ?_; (conv => whnf); refine SCond.y (by exact rfl) ?_
  (conv => whnf); refine SCond.y (by exact rfl) ?_; (conv => whnf); refine SCond.y (by exact rfl) ?_; (conv => whnf); refine SPick.y (by exact rfl) ?_; (conv => whnf); refine SCond.mk (fun hc => ?_) (fun hc => ?_); (conv => whnf); rotate_left; (conv => whnf)
  rotate_right
  refine SPick.y (by assumption) ?_; (conv => whnf); refine SCond.y (by exact rfl) ?_; (conv => whnf); refine SCond.y (by exact rfl) ?_; (conv => whnf); refine SCond.y (by exact rfl) ?_; (conv => whnf); refine SPick.y (by exact rfl) ?_; (conv => whnf); refine SCond.y (by exact decide_eq_true rfl) ?_; (conv => whnf); refine SCond.y (by exact decide_eq_true rfl) ?_; (conv => whnf)
  refine SCond.y (by exact decide_eq_true rfl) ?_; (conv => whnf); refine SPick.y (by exact decide_eq_true rfl) ?_; (conv => whnf); refine SCond.y (by exact decide_eq_true rfl) ?_; (conv => whnf); refine SCond.y (by exact decide_eq_true rfl) ?_; (conv => whnf); refine SCond.y (by exact decide_eq_true rfl) ?_; (conv => whnf); refine SPick.y (by exact decide_eq_true rfl) ?_; (conv => whnf)
  refine SCond.y (by exact decide_eq_true rfl) ?_; (conv => whnf); refine SCond.y (by exact decide_eq_true rfl) ?_; (conv => whnf); refine SCond.y (by exact decide_eq_true rfl) ?_; (conv => whnf); refine SPick.y (by exact decide_eq_true rfl) ?_; (conv => whnf); refine Hid.ret ?_; (conv => whnf); rotate_left; refine SPick.n (by assumption) ?_; (conv => whnf); refine SCond.n (by exact rfl) ?_
  (conv => whnf); refine SCond.n (by exact rfl) ?_; (conv => whnf); refine SCond.n (by exact rfl) ?_; (conv => whnf); refine SPick.n (by exact rfl) ?_; (conv => whnf); refine SCond.n (by exact rfl) ?_; (conv => whnf); refine SCond.n (by exact rfl) ?_; (conv => whnf); refine SCond.n (by exact rfl) ?_; (conv => whnf); refine SPick.n (by exact rfl) ?_; (conv => whnf); refine SCond.n (by exact rfl) ?_
  (conv => whnf); refine SCond.n (by exact rfl) ?_; (conv => whnf); refine SCond.n (by exact rfl) ?_; (conv => whnf); refine SPick.n (by exact rfl) ?_; (conv => whnf); refine SCond.n (by exact rfl) ?_; (conv => whnf); refine SCond.n (by exact rfl) ?_; (conv => whnf); refine SCond.n (by exact rfl) ?_; (conv => whnf); refine SPick.n (by exact rfl) ?_; (conv => whnf); refine Hid.ret ?_; (conv => whnf)
  rotate_left; refine SCond.n (by assumption) ?_; (conv => whnf); refine SCond.n (by assumption) ?_; (conv => whnf); refine SCond.n (by assumption) ?_; (conv => whnf); refine SCond.mk (fun hc => ?_) (fun hc => ?_); (conv => whnf); rotate_left; (conv => whnf)
  rotate_right
  refine SCond.y (by assumption) ?_; (conv => whnf); refine SCond.y (by assumption) ?_; (conv => whnf); refine SCond.n (by assumption) ?_; (conv => whnf); refine SPick.y (by assumption) ?_; (conv => whnf); refine SCond.y (by assumption) ?_; (conv => whnf); refine SPick.n (by assumption) ?_; (conv => whnf); refine SCond.n (by assumption) ?_; (conv => whnf); refine SPick.y (by assumption) ?_
  (conv => whnf); refine SCond.y (by assumption) ?_; (conv => whnf); refine SPick.n (by assumption) ?_; (conv => whnf); refine SCond.n (by assumption) ?_; (conv => whnf); refine SPick.y (by assumption) ?_; (conv => whnf); refine SPick.n (by assumption) ?_; (conv => whnf); refine Hid.seq ?_; refine Hid.reg ?_; (conv => whnf); refine SCall.p (by exact k1) ?_; (conv => whnf)
  refine SCall.p (by exact h1) ?_; (conv => whnf); refine Hid.seq ?_; refine Hid.reg ?_; (conv => whnf); refine SCall.p (by exact hkn) ?_; (conv => whnf); refine SCond.y (by exact rfl) ?_; (conv => whnf); refine SCond.y (by exact rfl) ?_; (conv => whnf); refine SCond.y (by exact rfl) ?_; (conv => whnf); refine SCond.y (by exact rfl) ?_; (conv => whnf); refine SCond.y (by exact rfl) ?_
  (conv => whnf); refine SCall.p (by exact k1) ?_; (conv => whnf); refine SCond.y (by exact rfl) ?_; (conv => whnf); refine SCond.y (by exact rfl) ?_; (conv => whnf); refine SCond.y (by exact rfl) ?_; (conv => whnf); refine SCond.y (by exact rfl) ?_; (conv => whnf); refine SCond.y (by exact rfl) ?_; (conv => whnf); refine SCall.p (by exact k2) ?_; (conv => whnf); refine SCond.y (by exact rfl) ?_
  (conv => whnf); refine SCond.y (by exact rfl) ?_; (conv => whnf); refine SCond.y (by exact rfl) ?_; (conv => whnf); refine SPick.y (by exact rfl) ?_; (conv => whnf); refine SCond.mk (fun hc => ?_) (fun hc => ?_); (conv => whnf); rotate_left; (conv => whnf)
  rotate_right
  refine SPick.y (by assumption) ?_; (conv => whnf); refine SCond.y (by exact rfl) ?_; (conv => whnf); refine SCond.y (by exact rfl) ?_; (conv => whnf); refine SCond.y (by exact rfl) ?_; (conv => whnf); refine SPick.y (by exact rfl) ?_; (conv => whnf); refine SCond.y (by exact decide_eq_true rfl) ?_; (conv => whnf); refine SCond.y (by exact decide_eq_true rfl) ?_; (conv => whnf)
  refine SCond.y (by exact decide_eq_true rfl) ?_; (conv => whnf); refine SPick.y (by exact decide_eq_true rfl) ?_; (conv => whnf); refine SCond.y (by exact decide_eq_true rfl) ?_; (conv => whnf); refine SCond.y (by exact decide_eq_true rfl) ?_; (conv => whnf); refine SCond.y (by exact decide_eq_true rfl) ?_; (conv => whnf); refine SPick.y (by exact decide_eq_true rfl) ?_; (conv => whnf)
  refine SCond.y (by exact decide_eq_true rfl) ?_; (conv => whnf); refine SCond.y (by exact decide_eq_true rfl) ?_; (conv => whnf); refine SCond.y (by exact decide_eq_true rfl) ?_; (conv => whnf); refine SPick.y (by exact decide_eq_true rfl) ?_; (conv => whnf); refine Hid.ret ?_; (conv => whnf); rotate_left; refine SPick.n (by assumption) ?_; (conv => whnf); refine SCond.n (by exact rfl) ?_
  (conv => whnf); refine SCond.n (by exact rfl) ?_; (conv => whnf); refine SCond.n (by exact rfl) ?_; (conv => whnf); refine SPick.n (by exact rfl) ?_; (conv => whnf); refine SCond.n (by exact rfl) ?_; (conv => whnf); refine SCond.n (by exact rfl) ?_; (conv => whnf); refine SCond.n (by exact rfl) ?_; (conv => whnf); refine SPick.n (by exact rfl) ?_; (conv => whnf); refine SCond.n (by exact rfl) ?_
  (conv => whnf); refine SCond.n (by exact rfl) ?_; (conv => whnf); refine SCond.n (by exact rfl) ?_; (conv => whnf); refine SPick.n (by exact rfl) ?_; (conv => whnf); refine SCond.n (by exact rfl) ?_; (conv => whnf); refine SCond.n (by exact rfl) ?_; (conv => whnf); refine SCond.n (by exact rfl) ?_; (conv => whnf); refine SPick.n (by exact rfl) ?_; (conv => whnf); refine Hid.ret ?_; (conv => whnf)
  rotate_left; refine SCond.n (by assumption) ?_; (conv => whnf); refine SCond.n (by assumption) ?_; (conv => whnf); refine SCond.n (by assumption) ?_; (conv => whnf); refine SPick.n (by assumption) ?_; (conv => whnf); refine SCond.y (by assumption) ?_; (conv => whnf); refine SPick.n (by assumption) ?_; (conv => whnf); refine SCond.n (by assumption) ?_; (conv => whnf)
  refine SPick.y (by assumption) ?_; (conv => whnf); refine SCond.y (by assumption) ?_; (conv => whnf); refine SPick.n (by assumption) ?_; (conv => whnf); refine SCond.n (by assumption) ?_; (conv => whnf); refine SPick.y (by assumption) ?_; (conv => whnf); refine SPick.n (by assumption) ?_; (conv => whnf); refine Hid.seq ?_; refine Hid.reg ?_; (conv => whnf); refine SCall.p (by exact k1) ?_
  (conv => whnf); refine SCall.p (by exact h1) ?_; (conv => whnf); refine Hid.seq ?_; refine Hid.reg ?_; (conv => whnf); refine SCall.p (by exact hkn) ?_; (conv => whnf); refine SCond.y (by exact rfl) ?_; (conv => whnf); refine SCond.y (by exact rfl) ?_; (conv => whnf); refine SCond.y (by exact rfl) ?_; (conv => whnf); refine SCond.y (by exact rfl) ?_; (conv => whnf)
  refine SCond.y (by exact rfl) ?_; (conv => whnf); refine SCall.p (by exact k1) ?_; (conv => whnf); refine SCond.y (by exact rfl) ?_; (conv => whnf); refine SCond.y (by exact rfl) ?_; (conv => whnf); refine SCond.y (by exact rfl) ?_; (conv => whnf); refine SCond.y (by exact rfl) ?_; (conv => whnf); refine SCond.y (by exact rfl) ?_; (conv => whnf); refine SCall.p (by exact k2) ?_; (conv => whnf)
  refine SCond.y (by exact rfl) ?_; (conv => whnf); refine SCond.y (by exact rfl) ?_; (conv => whnf); refine SCond.y (by exact rfl) ?_; (conv => whnf); refine SPick.y (by exact rfl) ?_; (conv => whnf); refine SCond.mk (fun hc => ?_) (fun hc => ?_); (conv => whnf); rotate_left; (conv => whnf)
  rotate_right
  refine SPick.y (by assumption) ?_; (conv => whnf); refine SCond.y (by exact rfl) ?_; (conv => whnf); refine SCond.y (by exact rfl) ?_; (conv => whnf); refine SCond.y (by exact rfl) ?_; (conv => whnf); refine SPick.y (by exact rfl) ?_; (conv => whnf); refine SCond.y (by exact decide_eq_true rfl) ?_; (conv => whnf); refine SCond.y (by exact decide_eq_true rfl) ?_; (conv => whnf)
  refine SCond.y (by exact decide_eq_true rfl) ?_; (conv => whnf); refine SPick.y (by exact decide_eq_true rfl) ?_; (conv => whnf); refine SCond.y (by exact decide_eq_true rfl) ?_; (conv => whnf); refine SCond.y (by exact decide_eq_true rfl) ?_; (conv => whnf); refine SCond.y (by exact decide_eq_true rfl) ?_; (conv => whnf); refine SPick.y (by exact decide_eq_true rfl) ?_; (conv => whnf)
  refine SCond.y (by exact decide_eq_true rfl) ?_; (conv => whnf); refine SCond.y (by exact decide_eq_true rfl) ?_; (conv => whnf); refine SCond.y (by exact decide_eq_true rfl) ?_; (conv => whnf); refine SPick.y (by exact decide_eq_true rfl) ?_; (conv => whnf); refine Hid.ret ?_; (conv => whnf); rotate_left; refine SPick.n (by assumption) ?_; (conv => whnf); refine SCond.n (by exact rfl) ?_
  (conv => whnf); refine SCond.n (by exact rfl) ?_; (conv => whnf); refine SCond.n (by exact rfl) ?_; (conv => whnf); refine SPick.n (by exact rfl) ?_; (conv => whnf); refine SCond.n (by exact rfl) ?_; (conv => whnf); refine SCond.n (by exact rfl) ?_; (conv => whnf); refine SCond.n (by exact rfl) ?_; (conv => whnf); refine SPick.n (by exact rfl) ?_; (conv => whnf); refine SCond.n (by exact rfl) ?_
  (conv => whnf); refine SCond.n (by exact rfl) ?_; (conv => whnf); refine SCond.n (by exact rfl) ?_; (conv => whnf); refine SPick.n (by exact rfl) ?_; (conv => whnf); refine SCond.n (by exact rfl) ?_; (conv => whnf); refine SCond.n (by exact rfl) ?_; (conv => whnf); refine SCond.n (by exact rfl) ?_; (conv => whnf); refine SPick.n (by exact rfl) ?_; (conv => whnf); refine Hid.ret ?_; (conv => whnf)
  rotate_left; refine SCond.n (by assumption) ?_; (conv => whnf); refine SCond.n (by assumption) ?_; (conv => whnf); refine SCond.n (by assumption) ?_; (conv => whnf); refine SCond.n (by assumption) ?_; (conv => whnf); refine SCond.n (by assumption) ?_; (conv => whnf); refine SPick.n (by assumption) ?_; (conv => whnf); refine SCond.y (by assumption) ?_; (conv => whnf)
  refine SPick.n (by assumption) ?_; (conv => whnf); refine SCond.n (by assumption) ?_; (conv => whnf); refine SPick.y (by assumption) ?_; (conv => whnf); refine SPick.n (by assumption) ?_; (conv => whnf); refine Hid.seq ?_; refine Hid.reg ?_; (conv => whnf); refine SCall.p (by exact k1) ?_; (conv => whnf); refine SCall.p (by exact h1) ?_; (conv => whnf); refine Hid.seq ?_; refine Hid.reg ?_
  (conv => whnf); refine SCall.p (by exact hkn) ?_; (conv => whnf); refine SCond.y (by exact rfl) ?_; (conv => whnf); refine SCond.y (by exact rfl) ?_; (conv => whnf); refine SCond.y (by exact rfl) ?_; (conv => whnf); refine SCond.y (by exact rfl) ?_; (conv => whnf); refine SCond.y (by exact rfl) ?_; (conv => whnf); refine SCall.p (by exact k1) ?_; (conv => whnf); refine SCond.y (by exact rfl) ?_
  (conv => whnf); refine SCond.y (by exact rfl) ?_; (conv => whnf); refine SCond.y (by exact rfl) ?_; (conv => whnf); refine SCond.y (by exact rfl) ?_; (conv => whnf); refine SCond.y (by exact rfl) ?_; (conv => whnf); refine SCall.p (by exact k2) ?_; (conv => whnf); refine SCond.y (by exact rfl) ?_; (conv => whnf); refine SCond.y (by exact rfl) ?_; (conv => whnf); refine SCond.y (by exact rfl) ?_
  (conv => whnf); refine SPick.y (by exact rfl) ?_; (conv => whnf); refine SCond.mk (fun hc => ?_) (fun hc => ?_); (conv => whnf); rotate_left; (conv => whnf)
  rotate_right
  refine SPick.y (by assumption) ?_; (conv => whnf); refine SCond.y (by exact rfl) ?_; (conv => whnf); refine SCond.y (by exact rfl) ?_; (conv => whnf); refine SCond.y (by exact rfl) ?_; (conv => whnf); refine SPick.y (by exact rfl) ?_; (conv => whnf); refine SCond.y (by exact decide_eq_true rfl) ?_; (conv => whnf); refine SCond.y (by exact decide_eq_true rfl) ?_; (conv => whnf)
  refine SCond.y (by exact decide_eq_true rfl) ?_; (conv => whnf); refine SPick.y (by exact decide_eq_true rfl) ?_; (conv => whnf); refine SCond.y (by exact decide_eq_true rfl) ?_; (conv => whnf); refine SCond.y (by exact decide_eq_true rfl) ?_; (conv => whnf); refine SCond.y (by exact decide_eq_true rfl) ?_; (conv => whnf); refine SPick.y (by exact decide_eq_true rfl) ?_; (conv => whnf)
  refine SCond.y (by exact decide_eq_true rfl) ?_; (conv => whnf); refine SCond.y (by exact decide_eq_true rfl) ?_; (conv => whnf); refine SCond.y (by exact decide_eq_true rfl) ?_; (conv => whnf); refine SPick.y (by exact decide_eq_true rfl) ?_; (conv => whnf); refine Hid.ret ?_; (conv => whnf); rotate_left; refine SPick.n (by assumption) ?_; (conv => whnf); refine SCond.n (by exact rfl) ?_
  (conv => whnf); refine SCond.n (by exact rfl) ?_; (conv => whnf); refine SCond.n (by exact rfl) ?_; (conv => whnf); refine SPick.n (by exact rfl) ?_; (conv => whnf); refine SCond.n (by exact rfl) ?_; (conv => whnf); refine SCond.n (by exact rfl) ?_; (conv => whnf); refine SCond.n (by exact rfl) ?_; (conv => whnf); refine SPick.n (by exact rfl) ?_; (conv => whnf); refine SCond.n (by exact rfl) ?_
  (conv => whnf); refine SCond.n (by exact rfl) ?_; (conv => whnf); refine SCond.n (by exact rfl) ?_; (conv => whnf); refine SPick.n (by exact rfl) ?_; (conv => whnf); refine SCond.n (by exact rfl) ?_; (conv => whnf); refine SCond.n (by exact rfl) ?_; (conv => whnf); refine SCond.n (by exact rfl) ?_; (conv => whnf); refine SPick.n (by exact rfl) ?_; (conv => whnf); refine Hid.ret ?_; (conv => whnf)
  rotate_left; refine SCond.n (by assumption) ?_; (conv => whnf); refine SCond.n (by assumption) ?_; (conv => whnf); refine SCond.n (by assumption) ?_; (conv => whnf); refine SCond.n (by assumption) ?_; (conv => whnf); refine SCond.n (by assumption) ?_; (conv => whnf); refine SPick.n (by assumption) ?_; (conv => whnf); refine SPick.n (by assumption) ?_; (conv => whnf); refine Hid.seq ?_
  refine Hid.reg ?_; (conv => whnf); refine SCall.p (by exact k1) ?_; (conv => whnf); refine SCall.p (by exact h1) ?_; (conv => whnf); refine Hid.seq ?_; refine Hid.reg ?_; (conv => whnf); refine SCall.p (by exact hkn) ?_; (conv => whnf); refine SCond.y (by exact rfl) ?_; (conv => whnf); refine SCond.y (by exact rfl) ?_; (conv => whnf); refine SCond.y (by exact rfl) ?_; (conv => whnf)
  refine SCond.y (by exact rfl) ?_; (conv => whnf); refine SCond.y (by exact rfl) ?_; (conv => whnf); refine SCall.p (by exact k1) ?_; (conv => whnf); refine SCond.y (by exact rfl) ?_; (conv => whnf); refine SCond.y (by exact rfl) ?_; (conv => whnf); refine SCond.y (by exact rfl) ?_; (conv => whnf); refine SCond.y (by exact rfl) ?_; (conv => whnf); refine SCond.y (by exact rfl) ?_; (conv => whnf)
  refine SCall.p (by exact k2) ?_; (conv => whnf); refine SCond.y (by exact rfl) ?_; (conv => whnf); refine SCond.y (by exact rfl) ?_; (conv => whnf); refine SCond.y (by exact rfl) ?_; (conv => whnf); refine SPick.y (by exact rfl) ?_; (conv => whnf); refine SCond.mk (fun hc => ?_) (fun hc => ?_); (conv => whnf); rotate_left; (conv => whnf)
  rotate_right
  refine SPick.y (by assumption) ?_; (conv => whnf); refine SCond.y (by exact rfl) ?_; (conv => whnf); refine SCond.y (by exact rfl) ?_; (conv => whnf); refine SCond.y (by exact rfl) ?_; (conv => whnf); refine SPick.y (by exact rfl) ?_; (conv => whnf); refine SCond.y (by exact decide_eq_true rfl) ?_; (conv => whnf); refine SCond.y (by exact decide_eq_true rfl) ?_; (conv => whnf)
  refine SCond.y (by exact decide_eq_true rfl) ?_; (conv => whnf); refine SPick.y (by exact decide_eq_true rfl) ?_; (conv => whnf); refine SCond.y (by exact decide_eq_true rfl) ?_; (conv => whnf); refine SCond.y (by exact decide_eq_true rfl) ?_; (conv => whnf); refine SCond.y (by exact decide_eq_true rfl) ?_; (conv => whnf); refine SPick.y (by exact decide_eq_true rfl) ?_; (conv => whnf)
  refine SCond.y (by exact decide_eq_true rfl) ?_; (conv => whnf); refine SCond.y (by exact decide_eq_true rfl) ?_; (conv => whnf); refine SCond.y (by exact decide_eq_true rfl) ?_; (conv => whnf); refine SPick.y (by exact decide_eq_true rfl) ?_; (conv => whnf); refine Hid.ret ?_; (conv => whnf); rotate_left; refine SPick.n (by assumption) ?_; (conv => whnf); refine SCond.n (by exact rfl) ?_
  (conv => whnf); refine SCond.n (by exact rfl) ?_; (conv => whnf); refine SCond.n (by exact rfl) ?_; (conv => whnf); refine SPick.n (by exact rfl) ?_; (conv => whnf); refine SCond.n (by exact rfl) ?_; (conv => whnf); refine SCond.n (by exact rfl) ?_; (conv => whnf); refine SCond.n (by exact rfl) ?_; (conv => whnf); refine SPick.n (by exact rfl) ?_; (conv => whnf); refine SCond.n (by exact rfl) ?_
  (conv => whnf); refine SCond.n (by exact rfl) ?_; (conv => whnf); refine SCond.n (by exact rfl) ?_; (conv => whnf); refine SPick.n (by exact rfl) ?_; (conv => whnf); refine SCond.n (by exact rfl) ?_; (conv => whnf); refine SCond.n (by exact rfl) ?_; (conv => whnf); refine SCond.n (by exact rfl) ?_; (conv => whnf); refine SPick.n (by exact rfl) ?_; (conv => whnf); refine Hid.ret ?_; (conv => whnf)
  rotate_left
  all_goals first
    | exact .w (congrArg AV.bool (decide_eq_true rfl))
    | (exfalso
       clear hkn h1 k1 k2 hcl hL hi hj hx hy hm hn ht hu
       simp only [*, decide_true, decide_false, Bool.false_or, Bool.true_or, Bool.true_and, Bool.false_and, Bool.or_false, Bool.and_false] at hl
       rw [hl] at hc
       simp at hc)
end Go.Proofs.YtgliemhhnkhboaaDoor
end
