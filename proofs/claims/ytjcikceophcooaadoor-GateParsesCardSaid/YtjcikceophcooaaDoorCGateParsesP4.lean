/- The law GateParses returns true for every input, and its arguments read as before: the tied card. No conditions. This is part 4 of 7 of its proof; the parts are read in order. No conditions. -/
import Derived.Test.YtjcikceophcooaaDoorCGateParsesP3
import Derived.Shelf.Strings.OnBuilder
import Derived.Shelf.LaysM
import Derived.Shelf.Strconv.Itoa3
import Derived.Shelf.LaysC
import Derived.Shelf.Strconv.AtoiAll
import Derived.Shelf.Strings.Search1
import Derived.Shelf.Strings.Split
import Derived.Test.YtjcikceophcooaaDoorProg
import Derived.Lib.ItoaNum
import Derived.Lib.Atoi
import Derived.Lib.Repeat
import Derived.Lib.AppendIntMem
import Derived.Lib.AtoiErrMem
import Derived.Lib.AtoiTie
import Derived.Lib.IndexLaws
import Derived.Lib.ItoaLen
section
namespace Go.Proofs
open Go.Shelf
def Tryd.lays156_ren : Go.Shelf.Ren := ⟨fun | 156 => 38 | 165 => 48 | 166 => 25 | 169 => 27 | 240 => 42 | 241 => 57 | 276 => 52 | 277 => 66 | n => n, fun | 31 => 64 | 9 => 9 | 3 => 3 | 4 => 4 | 0 => 0 | 20 => 20 | 72 => 52 | 76 => 57 | 70 => 50 | 37 => 26 | 75 => 55 | 127 => 82 | 164 => 96 | 5 => 5 | 80 => 60 | n => n, fun | n => n⟩
theorem Tryd.lays156 : Go.Proofs.Lays.n156 Tryd.prog Tryd.lays156_ren := {
  mixed := by kernel_rfl
  f156 := Tryd.func38.trans (congrArg some (by kernel_rfl))
  f165 := Tryd.func48.trans (congrArg some (by kernel_rfl))
  f166 := Tryd.func25.trans (congrArg some (by kernel_rfl))
  f169 := Tryd.func27.trans (congrArg some (by kernel_rfl))
  f240 := Tryd.func42.trans (congrArg some (by kernel_rfl))
  f241 := Tryd.func57.trans (congrArg some (by kernel_rfl))
  f276 := Tryd.func52.trans (congrArg some (by kernel_rfl))
  f277 := Tryd.func66.trans (congrArg some (by kernel_rfl))
  t0 := Tryd.underlying0
  a0 := Tryd.isAgg0
  z0 := Tryd.sizeOf0
  v0 := Tryd.zeroValue0
  t3 := Tryd.underlying3
  a3 := Tryd.isAgg3
  z3 := Tryd.sizeOf3
  v3 := Tryd.zeroValue3
  t4 := Tryd.underlying4
  a4 := Tryd.isAgg4
  z4 := Tryd.sizeOf4
  v4 := Tryd.zeroValue4
  t9 := Tryd.underlying9
  a9 := Tryd.isAgg9
  z9 := Tryd.sizeOf9
  v9 := Tryd.zeroValue9
  t20 := Tryd.underlying20
  a20 := Tryd.isAgg20
  z20 := Tryd.sizeOf20
  v20 := Tryd.zeroValue20
  t31 := Tryd.underlying64
  a31 := Tryd.isAgg64
  z31 := Tryd.sizeOf64
  v31 := Tryd.zeroValue64
  t37 := Tryd.underlying26
  a37 := Tryd.isAgg26
  z37 := Tryd.sizeOf26
  v37 := Tryd.zeroValue26
  t70 := Tryd.underlying50
  a70 := Tryd.isAgg50
  z70 := Tryd.sizeOf50
  v70 := Tryd.zeroValue50
  t72 := Tryd.underlying52
  a72 := Tryd.isAgg52
  z72 := Tryd.sizeOf52
  v72 := Tryd.zeroValue52
  t75 := Tryd.underlying55
  a75 := Tryd.isAgg55
  z75 := Tryd.sizeOf55
  v75 := Tryd.zeroValue55
  t76 := Tryd.underlying57
  a76 := Tryd.isAgg57
  z76 := Tryd.sizeOf57
  v76 := Tryd.zeroValue57
  t127 := Tryd.underlying82
  a127 := Tryd.isAgg82
  z127 := Tryd.sizeOf82
  v127 := Tryd.zeroValue82
  t164 := Tryd.underlying96
  a164 := Tryd.isAgg96
  z164 := Tryd.sizeOf96
  v164 := Tryd.zeroValue96 }
theorem Tryd.Builder_Extra_156 : Builder.Extra Tryd.prog Tryd.lays156_ren := {
  sizeBuilder := by kernel_rfl
  liesBuilder := by kernel_rfl
  t5 := Tryd.underlying5
  a5 := Tryd.isAgg5
  z5 := Tryd.sizeOf5
  v5 := Tryd.zeroValue5
  infoByte := by kernel_rfl
  cellsByte := by kernel_rfl
  sizeByte := by kernel_rfl
  neB5 := by decide }
open Go.RowKit in
open Go.RowKit in
theorem Tryd.strings_Join (bk o c : Nat) (xs : List ByteArray) (sep : ByteArray) (w : World) (hcells : ∀ (j : Nat) x, xs[j]? = some x → w.cell? ⟨bk, o + j, none⟩ = some (.string x)) (hbk : bk < w.heap.size) (hN : xs.length ≤ 140737488355328) (hcap : xs.length ≤ c) (hlen : (Lib.join (xs.map (·.data.toList)) sep.data.toList).length ≤ 140737488355328) :
    Calls Tryd.prog 38 #[.slice (some ⟨bk, o, none⟩) xs.length c, .string sep] w fun e w' => e = .returned (.string ⟨(Lib.join (xs.map (·.data.toList)) sep.data.toList).toArray⟩) ∧ Below w.heap.size w w' := Any.strings_Join Tryd.lays156 Tryd.Builder_Extra_156 bk o c xs sep w hcells hbk hN hcap hlen
open Go.RowKit Go.Sort Go.Lib in
open Go.RowKit Go.Sort Go.Lib in
open Go.RowKit Go.Sort Go.Lib in
open Go.RowKit Go.Sort Go.Lib in
def Tryd.laysM171_ren : Go.Shelf.Ren := ⟨fun | 171 => 29 | 243 => 44 | 246 => 53 | 283 => 62 | 284 => 63 | 285 => 64 | 286 => 65 | 129 => 74 | 317 => 73 | 318 => 75 | 319 => 76 | 320 => 77 | 337 => 87 | 338 => 88 | n => n, fun | 3 => 3 | 9 => 9 | 2 => 2 | 4 => 4 | 171 => 102 | 0 => 0 | 53 => 103 | 37 => 26 | 5 => 5 | 173 => 106 | 212 => 115 | 51 => 116 | 20 => 20 | 213 => 117 | 46 => 71 | 232 => 137 | 233 => 138 | n => n, fun | 17 => 1 | 18 => 6 | 19 => 7 | n => n⟩
theorem Tryd.laysM171 : Go.Proofs.LaysM.n171 Tryd.prog Tryd.laysM171_ren := {
  mixed := by kernel_rfl
  f129 := Tryd.func74.trans (congrArg some (by kernel_rfl))
  f171 := Tryd.func29.trans (congrArg some (by kernel_rfl))
  f243 := Tryd.func44.trans (congrArg some (by kernel_rfl))
  f246 := Tryd.func53.trans (congrArg some (by kernel_rfl))
  f283 := Tryd.func62.trans (congrArg some (by kernel_rfl))
  f284 := Tryd.func63.trans (congrArg some (by kernel_rfl))
  f285 := Tryd.func64.trans (congrArg some (by kernel_rfl))
  f286 := Tryd.func65.trans (congrArg some (by kernel_rfl))
  f317 := Tryd.func73.trans (congrArg some (by kernel_rfl))
  f318 := Tryd.func75.trans (congrArg some (by kernel_rfl))
  f319 := Tryd.func76.trans (congrArg some (by kernel_rfl))
  f320 := Tryd.func77.trans (congrArg some (by kernel_rfl))
  f337 := Tryd.func87.trans (congrArg some (by kernel_rfl))
  f338 := Tryd.func88.trans (congrArg some (by kernel_rfl))
  t0 := Tryd.underlying0
  a0 := Tryd.isAgg0
  z0 := Tryd.sizeOf0
  v0 := Tryd.zeroValue0
  t2 := Tryd.underlying2
  a2 := Tryd.isAgg2
  z2 := Tryd.sizeOf2
  v2 := Tryd.zeroValue2
  t3 := Tryd.underlying3
  a3 := Tryd.isAgg3
  z3 := Tryd.sizeOf3
  v3 := Tryd.zeroValue3
  t4 := Tryd.underlying4
  a4 := Tryd.isAgg4
  z4 := Tryd.sizeOf4
  v4 := Tryd.zeroValue4
  t5 := Tryd.underlying5
  a5 := Tryd.isAgg5
  z5 := Tryd.sizeOf5
  v5 := Tryd.zeroValue5
  t9 := Tryd.underlying9
  a9 := Tryd.isAgg9
  z9 := Tryd.sizeOf9
  v9 := Tryd.zeroValue9
  t20 := Tryd.underlying20
  a20 := Tryd.isAgg20
  z20 := Tryd.sizeOf20
  v20 := Tryd.zeroValue20
  t37 := Tryd.underlying26
  a37 := Tryd.isAgg26
  z37 := Tryd.sizeOf26
  v37 := Tryd.zeroValue26
  t46 := Tryd.underlying71
  a46 := Tryd.isAgg71
  z46 := Tryd.sizeOf71
  v46 := Tryd.zeroValue71
  t51 := Tryd.underlying116
  a51 := Tryd.isAgg116
  z51 := Tryd.sizeOf116
  v51 := Tryd.zeroValue116
  t53 := Tryd.underlying103
  a53 := Tryd.isAgg103
  z53 := Tryd.sizeOf103
  v53 := Tryd.zeroValue103
  t171 := Tryd.underlying102
  a171 := Tryd.isAgg102
  z171 := Tryd.sizeOf102
  v171 := Tryd.zeroValue102
  t173 := Tryd.underlying106
  a173 := Tryd.isAgg106
  z173 := Tryd.sizeOf106
  v173 := Tryd.zeroValue106
  t212 := Tryd.underlying115
  a212 := Tryd.isAgg115
  z212 := Tryd.sizeOf115
  v212 := Tryd.zeroValue115
  t213 := Tryd.underlying117
  a213 := Tryd.isAgg117
  z213 := Tryd.sizeOf117
  t232 := Tryd.underlying137
  a232 := Tryd.isAgg137
  z232 := Tryd.sizeOf137
  v232 := Tryd.zeroValue137
  t233 := Tryd.underlying138
  a233 := Tryd.isAgg138
  z233 := Tryd.sizeOf138
  v233 := Tryd.zeroValue138
  g17 := by kernel_rfl
  g18 := by kernel_rfl
  g19 := by kernel_rfl
  i0 := by kernel_rfl
  i2 := by kernel_rfl
  i3 := by kernel_rfl
  i4 := by kernel_rfl
  i5 := by kernel_rfl
  i9 := by kernel_rfl
  i20 := by kernel_rfl
  i37 := by kernel_rfl
  i46 := by kernel_rfl
  i51 := by kernel_rfl
  i53 := by kernel_rfl
  i171 := by kernel_rfl
  i173 := by kernel_rfl
  i212 := by kernel_rfl
  i232 := by kernel_rfl
  i233 := by kernel_rfl
  m17 := by kernel_rfl
  m18 := by kernel_rfl
  m19 := by kernel_rfl }
open Go.RowKit Go.Sort Go.Lib in
theorem Tryd.strconv_Itoa (n : Int) (h0 : -9223372036854775808 ≤ n) (h1 : n ≤ 9223372036854775807) (w : World) (htab : Lib.TabIs Tryd.prog w "internal/strconv.uint64pow10" .u64 Lib.pow10Tab) :
    Calls Tryd.prog 29 #[.int .i64 n] w fun e w' => e = .returned (.string ⟨(Lib.itoa n).toArray⟩) ∧ ∃ k os, w' = grow (w.drewN k) os := Any.strconv_Itoa Tryd.laysM171 n h0 h1 w htab
open Go.RowKit Go.Sort Go.Lib in
def Tryd.laysC172_ren : Go.Shelf.Ren := ⟨fun | 172 => 61 | 244 => 71 | 245 => 72 | 247 => 82 | 279 => 83 | 280 => 84 | 281 => 85 | 282 => 86 | 287 => 90 | 316 => 91 | 171 => 29 | 205 => 92 | 321 => 93 | 322 => 94 | 243 => 44 | 246 => 53 | 283 => 62 | 284 => 63 | 285 => 64 | 286 => 65 | 129 => 74 | 317 => 73 | 318 => 75 | 319 => 76 | 320 => 77 | 337 => 87 | 338 => 88 | n => n, fun | 9 => 9 | 3 => 3 | 75 => 55 | 76 => 57 | 4 => 4 | 5 => 5 | 167 => 119 | 37 => 26 | 0 => 0 | 85 => 120 | 2 => 2 | 168 => 122 | 53 => 103 | 175 => 132 | 46 => 71 | 210 => 135 | 127 => 82 | 145 => 142 | 143 => 140 | 21 => 21 | 171 => 102 | 173 => 106 | 212 => 115 | 51 => 116 | 20 => 20 | 213 => 117 | 232 => 137 | 233 => 138 | 80 => 60 | n => n, fun | 15 => 4 | 16 => 5 | 17 => 1 | 18 => 6 | 19 => 7 | n => n⟩
theorem Tryd.laysC172 : Go.Proofs.LaysC.n172 Tryd.prog Tryd.laysC172_ren := {
  mixed := by kernel_rfl
  f129 := Tryd.func74.trans (congrArg some (by kernel_rfl))
  f171 := Tryd.func29.trans (congrArg some (by kernel_rfl))
  f172 := Tryd.func61.trans (congrArg some (by kernel_rfl))
  f205 := Tryd.func92.trans (congrArg some (by kernel_rfl))
  f243 := Tryd.func44.trans (congrArg some (by kernel_rfl))
  f244 := Tryd.func71.trans (congrArg some (by kernel_rfl))
  f245 := Tryd.func72.trans (congrArg some (by kernel_rfl))
  f246 := Tryd.func53.trans (congrArg some (by kernel_rfl))
  f247 := Tryd.func82.trans (congrArg some (by kernel_rfl))
  f279 := Tryd.func83.trans (congrArg some (by kernel_rfl))
  f280 := Tryd.func84.trans (congrArg some (by kernel_rfl))
  f281 := Tryd.func85.trans (congrArg some (by kernel_rfl))
  f282 := Tryd.func86.trans (congrArg some (by kernel_rfl))
  f283 := Tryd.func62.trans (congrArg some (by kernel_rfl))
  f284 := Tryd.func63.trans (congrArg some (by kernel_rfl))
  f285 := Tryd.func64.trans (congrArg some (by kernel_rfl))
  f286 := Tryd.func65.trans (congrArg some (by kernel_rfl))
  f287 := Tryd.func90.trans (congrArg some (by kernel_rfl))
  f316 := Tryd.func91.trans (congrArg some (by kernel_rfl))
  f317 := Tryd.func73.trans (congrArg some (by kernel_rfl))
  f318 := Tryd.func75.trans (congrArg some (by kernel_rfl))
  f319 := Tryd.func76.trans (congrArg some (by kernel_rfl))
  f320 := Tryd.func77.trans (congrArg some (by kernel_rfl))
  f321 := Tryd.func93.trans (congrArg some (by kernel_rfl))
  f322 := Tryd.func94.trans (congrArg some (by kernel_rfl))
  f337 := Tryd.func87.trans (congrArg some (by kernel_rfl))
  f338 := Tryd.func88.trans (congrArg some (by kernel_rfl))
  t0 := Tryd.underlying0
  a0 := Tryd.isAgg0
  z0 := Tryd.sizeOf0
  v0 := Tryd.zeroValue0
  t2 := Tryd.underlying2
  a2 := Tryd.isAgg2
  z2 := Tryd.sizeOf2
  v2 := Tryd.zeroValue2
  t3 := Tryd.underlying3
  a3 := Tryd.isAgg3
  z3 := Tryd.sizeOf3
  v3 := Tryd.zeroValue3
  t4 := Tryd.underlying4
  a4 := Tryd.isAgg4
  z4 := Tryd.sizeOf4
  v4 := Tryd.zeroValue4
  t5 := Tryd.underlying5
  a5 := Tryd.isAgg5
  z5 := Tryd.sizeOf5
  v5 := Tryd.zeroValue5
  t9 := Tryd.underlying9
  a9 := Tryd.isAgg9
  z9 := Tryd.sizeOf9
  v9 := Tryd.zeroValue9
  t20 := Tryd.underlying20
  a20 := Tryd.isAgg20
  z20 := Tryd.sizeOf20
  v20 := Tryd.zeroValue20
  t21 := Tryd.underlying21
  a21 := Tryd.isAgg21
  z21 := Tryd.sizeOf21
  v21 := Tryd.zeroValue21
  t37 := Tryd.underlying26
  a37 := Tryd.isAgg26
  z37 := Tryd.sizeOf26
  v37 := Tryd.zeroValue26
  t46 := Tryd.underlying71
  a46 := Tryd.isAgg71
  z46 := Tryd.sizeOf71
  v46 := Tryd.zeroValue71
  t51 := Tryd.underlying116
  a51 := Tryd.isAgg116
  z51 := Tryd.sizeOf116
  v51 := Tryd.zeroValue116
  t53 := Tryd.underlying103
  a53 := Tryd.isAgg103
  z53 := Tryd.sizeOf103
  v53 := Tryd.zeroValue103
  t75 := Tryd.underlying55
  a75 := Tryd.isAgg55
  z75 := Tryd.sizeOf55
  v75 := Tryd.zeroValue55
  t76 := Tryd.underlying57
  a76 := Tryd.isAgg57
  z76 := Tryd.sizeOf57
  v76 := Tryd.zeroValue57
  t85 := Tryd.underlying120
  a85 := Tryd.isAgg120
  z85 := Tryd.sizeOf120
  v85 := Tryd.zeroValue120
  t127 := Tryd.underlying82
  a127 := Tryd.isAgg82
  z127 := Tryd.sizeOf82
  v127 := Tryd.zeroValue82
  t143 := Tryd.underlying140
  a143 := Tryd.isAgg140
  z143 := Tryd.sizeOf140
  v143 := Tryd.zeroValue140
  t145 := Tryd.underlying142
  a145 := Tryd.isAgg142
  z145 := Tryd.sizeOf142
  v145 := Tryd.zeroValue142
  t167 := Tryd.underlying119
  a167 := Tryd.isAgg119
  z167 := Tryd.sizeOf119
  v167 := Tryd.zeroValue119
  t168 := Tryd.underlying122
  a168 := Tryd.isAgg122
  z168 := Tryd.sizeOf122
  v168 := Tryd.zeroValue122
  t171 := Tryd.underlying102
  a171 := Tryd.isAgg102
  z171 := Tryd.sizeOf102
  v171 := Tryd.zeroValue102
  t173 := Tryd.underlying106
  a173 := Tryd.isAgg106
  z173 := Tryd.sizeOf106
  v173 := Tryd.zeroValue106
  t175 := Tryd.underlying132
  a175 := Tryd.isAgg132
  z175 := Tryd.sizeOf132
  v175 := Tryd.zeroValue132
  t210 := Tryd.underlying135
  a210 := Tryd.isAgg135
  z210 := Tryd.sizeOf135
  v210 := Tryd.zeroValue135
  t212 := Tryd.underlying115
  a212 := Tryd.isAgg115
  z212 := Tryd.sizeOf115
  v212 := Tryd.zeroValue115
  t213 := Tryd.underlying117
  a213 := Tryd.isAgg117
  z213 := Tryd.sizeOf117
  t232 := Tryd.underlying137
  a232 := Tryd.isAgg137
  z232 := Tryd.sizeOf137
  v232 := Tryd.zeroValue137
  t233 := Tryd.underlying138
  a233 := Tryd.isAgg138
  z233 := Tryd.sizeOf138
  v233 := Tryd.zeroValue138
  g15 := by kernel_rfl
  g16 := by kernel_rfl
  g17 := by kernel_rfl
  g18 := by kernel_rfl
  g19 := by kernel_rfl
  t80 := Tryd.underlying60
  a80 := Tryd.isAgg60
  z80 := Tryd.sizeOf60
  v80 := Tryd.zeroValue60
  i0 := by kernel_rfl
  i2 := by kernel_rfl
  i3 := by kernel_rfl
  i4 := by kernel_rfl
  i5 := by kernel_rfl
  i9 := by kernel_rfl
  i20 := by kernel_rfl
  i21 := by kernel_rfl
  i37 := by kernel_rfl
  i46 := by kernel_rfl
  i51 := by kernel_rfl
  i53 := by kernel_rfl
  i75 := by kernel_rfl
  i76 := by kernel_rfl
  i80 := by kernel_rfl
  i85 := by kernel_rfl
  i127 := by kernel_rfl
  i143 := by kernel_rfl
  i145 := by kernel_rfl
  i167 := by kernel_rfl
  i168 := by kernel_rfl
  i171 := by kernel_rfl
  i173 := by kernel_rfl
  i175 := by kernel_rfl
  i210 := by kernel_rfl
  i212 := by kernel_rfl
  i232 := by kernel_rfl
  i233 := by kernel_rfl
  m15 := by kernel_rfl
  m16 := by kernel_rfl
  m17 := by kernel_rfl
  m18 := by kernel_rfl
  m19 := by kernel_rfl
  c0 := by kernel_rfl
  c2 := by kernel_rfl
  c3 := by kernel_rfl
  c4 := by kernel_rfl
  c5 := by kernel_rfl
  c9 := by kernel_rfl
  c20 := by kernel_rfl
  c21 := by kernel_rfl
  c37 := by kernel_rfl
  c46 := by kernel_rfl
  c51 := by kernel_rfl
  c53 := by kernel_rfl
  c75 := by kernel_rfl
  c76 := by kernel_rfl
  c80 := by kernel_rfl
  c85 := by kernel_rfl
  c127 := by kernel_rfl
  c143 := by kernel_rfl
  c145 := by kernel_rfl
  c167 := by kernel_rfl
  c168 := by kernel_rfl
  c171 := by kernel_rfl
  c173 := by kernel_rfl
  c175 := by kernel_rfl
  c210 := by kernel_rfl
  c212 := by kernel_rfl
  c213 := by kernel_rfl
  c232 := by kernel_rfl
  c233 := by kernel_rfl }
open Go.RowKit in
theorem Tryd.strconv_Atoi_ok (s : ByteArray) (hmax : s.size ≤ 9223372036854775806) (v : Int) (h : Lib.atoiAll s.data.toList = .ok v) (w : World) :
    Calls Tryd.prog 61 #[.string s] w fun e w' => e = .returned (.tuple #[.int .i64 v, .nilIface]) ∧ (w' = w ∨ ∃ t, w' = Lib.bytesWorld w 5 t) := Any.strconv_Atoi_ok Tryd.laysC172 s hmax v h w
open Go.RowKit in
open Go.RowKit in
theorem Tryd.strconv_Atoi_range (s : ByteArray) (hlim : s.size ≤ 281474976710656) (h : Lib.atoiAll s.data.toList = .range) (ev : Value) (w : World) (hv : w.cell? ⟨5, 0, none⟩ = some ev) (hev : ev = .nilIface ∨ ∃ te pe, ev = .iface te pe) :
    Calls Tryd.prog 61 #[.string s] w fun e w' => ∃ N, e = .returned (.tuple #[.int .i64 (Lib.atoiSat s.data.toList), .iface 122 (.pointer (some ⟨N, 0, none⟩))]) ∧ w.heap.size ≤ N ∧ w'.heap[N]? = some (.cells #[.string ⟨#[65, 116, 111, 105]⟩, .string s, ev] 135 (0, 0)) ∧ Below w.heap.size w w' := Any.strconv_Atoi_range Tryd.laysC172 s hlim h ev w hv hev
def Tryd.lays217_ren : Go.Shelf.Ren := ⟨fun | 217 => 47 | 266 => 56 | n => n, fun | 9 => 9 | 5 => 5 | 3 => 3 | n => n, fun | n => n⟩
theorem Tryd.lays217 : Go.Proofs.Lays.n217 Tryd.prog Tryd.lays217_ren := {
  mixed := by kernel_rfl
  f217 := Tryd.func47.trans (congrArg some (by kernel_rfl))
  f266 := Tryd.func56.trans (congrArg some (by kernel_rfl))
  t3 := Tryd.underlying3
  a3 := Tryd.isAgg3
  z3 := Tryd.sizeOf3
  v3 := Tryd.zeroValue3
  t5 := Tryd.underlying5
  a5 := Tryd.isAgg5
  z5 := Tryd.sizeOf5
  v5 := Tryd.zeroValue5
  t9 := Tryd.underlying9
  a9 := Tryd.isAgg9
  z9 := Tryd.sizeOf9
  v9 := Tryd.zeroValue9 }
open Go.RowKit Go.Lib in
theorem Tryd.stringslite_IndexByte (s : ByteArray) (c : Int) (w : World) :
    Calls Tryd.prog 47 #[.string s, .int .u8 c] w fun e w' => e = .returned (.int .i64 (Lib.indexByte s.data.toList c.toNat.toUInt8)) ∧ w' = w := Any.stringslite_IndexByte Tryd.lays217 s c w
open Go.RowKit Go.Lib in
open Go.RowKit Go.Lib in
open Go.RowKit Go.Lib in
open Go.RowKit Go.Lib in
open Go.RowKit Go.Lib in
def Tryd.lays146_ren : Go.Shelf.Ren := ⟨fun | 146 => 40 | 221 => 50 | 268 => 58 | 138 => 59 | 143 => 60 | 195 => 67 | 197 => 68 | 218 => 69 | 219 => 70 | 260 => 78 | 217 => 47 | 225 => 79 | 224 => 80 | 267 => 81 | 266 => 56 | 314 => 89 | n => n, fun | 9 => 9 | 31 => 64 | 3 => 3 | 4 => 4 | 0 => 0 | 105 => 110 | 21 => 21 | 5 => 5 | 46 => 71 | 119 => 126 | 139 => 129 | 138 => 128 | 146 => 130 | 51 => 116 | n => n, fun | 1 => 0 | 3 => 2 | 4 => 3 | n => n⟩
theorem Tryd.lays146 : Go.Proofs.Lays.n146 Tryd.prog Tryd.lays146_ren := {
  mixed := by kernel_rfl
  f138 := Tryd.func59.trans (congrArg some (by kernel_rfl))
  f143 := Tryd.func60.trans (congrArg some (by kernel_rfl))
  f146 := Tryd.func40.trans (congrArg some (by kernel_rfl))
  f195 := Tryd.func67.trans (congrArg some (by kernel_rfl))
  f197 := Tryd.func68.trans (congrArg some (by kernel_rfl))
  f217 := Tryd.func47.trans (congrArg some (by kernel_rfl))
  f218 := Tryd.func69.trans (congrArg some (by kernel_rfl))
  f219 := Tryd.func70.trans (congrArg some (by kernel_rfl))
  f221 := Tryd.func50.trans (congrArg some (by kernel_rfl))
  f224 := Tryd.func80.trans (congrArg some (by kernel_rfl))
  f225 := Tryd.func79.trans (congrArg some (by kernel_rfl))
  f260 := Tryd.func78.trans (congrArg some (by kernel_rfl))
  f266 := Tryd.func56.trans (congrArg some (by kernel_rfl))
  f267 := Tryd.func81.trans (congrArg some (by kernel_rfl))
  f268 := Tryd.func58.trans (congrArg some (by kernel_rfl))
  f314 := Tryd.func89.trans (congrArg some (by kernel_rfl))
  t0 := Tryd.underlying0
  a0 := Tryd.isAgg0
  z0 := Tryd.sizeOf0
  v0 := Tryd.zeroValue0
  t3 := Tryd.underlying3
  a3 := Tryd.isAgg3
  z3 := Tryd.sizeOf3
  v3 := Tryd.zeroValue3
  t4 := Tryd.underlying4
  a4 := Tryd.isAgg4
  z4 := Tryd.sizeOf4
  v4 := Tryd.zeroValue4
  t5 := Tryd.underlying5
  a5 := Tryd.isAgg5
  z5 := Tryd.sizeOf5
  v5 := Tryd.zeroValue5
  t9 := Tryd.underlying9
  a9 := Tryd.isAgg9
  z9 := Tryd.sizeOf9
  v9 := Tryd.zeroValue9
  t21 := Tryd.underlying21
  a21 := Tryd.isAgg21
  z21 := Tryd.sizeOf21
  v21 := Tryd.zeroValue21
  t31 := Tryd.underlying64
  a31 := Tryd.isAgg64
  z31 := Tryd.sizeOf64
  v31 := Tryd.zeroValue64
  t46 := Tryd.underlying71
  a46 := Tryd.isAgg71
  z46 := Tryd.sizeOf71
  v46 := Tryd.zeroValue71
  t51 := Tryd.underlying116
  a51 := Tryd.isAgg116
  z51 := Tryd.sizeOf116
  v51 := Tryd.zeroValue116
  t105 := Tryd.underlying110
  a105 := Tryd.isAgg110
  z105 := Tryd.sizeOf110
  v105 := Tryd.zeroValue110
  t119 := Tryd.underlying126
  a119 := Tryd.isAgg126
  z119 := Tryd.sizeOf126
  t138 := Tryd.underlying128
  a138 := Tryd.isAgg128
  z138 := Tryd.sizeOf128
  v138 := Tryd.zeroValue128
  t139 := Tryd.underlying129
  a139 := Tryd.isAgg129
  z139 := Tryd.sizeOf129
  v139 := Tryd.zeroValue129
  t146 := Tryd.underlying130
  a146 := Tryd.isAgg130
  z146 := Tryd.sizeOf130
  v146 := Tryd.zeroValue130
  g1 := by kernel_rfl
  g3 := by kernel_rfl
  g4 := by kernel_rfl }
end Go.Proofs
end
section
set_option linter.unusedVariables false
namespace Go.Al
open Go
def dig (n : Nat) : UInt8 := UInt8.ofNat (48 + n % 10)
def dN : Nat → Nat → List UInt8
  | 0, _ => []
  | k + 1, n => dN k (n / 10) ++ [dig n]
theorem dN_length : ∀ k n, (dN k n).length = k
  | 0, _ => rfl
  | k + 1, n => by simp [dN, dN_length k]
def cl (n : Int) : Nat := (max 0 (min n 9999999999)).toNat
def rkey (v : Nat) (t : UInt8) (id seq : Int) : List UInt8 := [UInt8.ofNat (48 + v), t] ++ dN 10 (cl id) ++ dN 10 (cl seq)
theorem digitVal_dig (n : Nat) : Lib.digitVal (dig n) = some (n % 10) := by
  have e : (dig n).toNat = 48 + n % 10 := by simp [dig]; omega
  rw [Lib.digitVal, e, if_pos (by omega)]; simp
theorem decFrom_append : ∀ (a b : List UInt8) (acc m : Nat), Lib.decFrom acc a = some m → Lib.decFrom acc (a ++ b) = Lib.decFrom m b
  | [], b, acc, m, h => by simp only [Lib.decFrom, Option.some.injEq] at h; subst h; rfl
  | x :: a, b, acc, m, h => by
    simp only [List.cons_append, Lib.decFrom] at h ⊢
    cases hx : Lib.digitVal x with
    | none => simp [hx] at h
    | some d => simp only [hx] at h ⊢; exact decFrom_append a b _ m h
theorem decFrom_dN : ∀ (k n acc : Nat), Lib.decFrom acc (dN k n) = some (acc * 10 ^ k + n % 10 ^ k)
  | 0, n, acc => by simp [dN, Lib.decFrom, Nat.mod_one]
  | k + 1, n, acc => by
    rw [dN, decFrom_append _ _ _ _ (decFrom_dN k (n / 10) acc)]
    simp only [Lib.decFrom, digitVal_dig, Option.some.injEq]
    have h1 : n % 10 ^ (k + 1) = n / 10 % 10 ^ k * 10 + n % 10 := by
      rw [Nat.pow_succ, Nat.mul_comm (10 ^ k) 10, Nat.mod_mul, Nat.mul_comm 10, Nat.add_comm]
    rw [h1, Nat.pow_succ, ← Nat.mul_assoc, Nat.add_mul]; omega
theorem dig_ge (n : Nat) : 48 ≤ (dig n).toNat ∧ (dig n).toNat ≤ 57 := by
  have e : (dig n).toNat = 48 + n % 10 := by simp [dig]; omega
  omega
theorem dN_digits : ∀ (k n : Nat), ∀ b ∈ dN k n, 48 ≤ b.toNat ∧ b.toNat ≤ 57
  | 0, n, b, h => by simp [dN] at h
  | k + 1, n, b, h => by
    rw [dN, List.mem_append] at h
    rcases h with h | h
    · exact dN_digits k _ b h
    · obtain rfl : b = dig n := by simpa using h
      exact dig_ge n
theorem atoi_dN (k n : Nat) (h : n < 10 ^ (k + 1)) : Lib.atoi (dN (k + 1) n) = some n := by
  have hd := dN_digits (k + 1) n
  have hf := decFrom_dN (k + 1) n 0
  have hl := dN_length (k + 1) n
  generalize dN (k + 1) n = l at hd hf hl
  cases l with
  | nil => simp at hl
  | cons b r =>
    have h1 := hd b (by simp)
    have n1 : (b == 45) = false := by
      rw [beq_eq_false_iff_ne]; rintro rfl; simp at h1
    have n2 : (b == 43) = false := by
      rw [beq_eq_false_iff_ne]; rintro rfl; simp at h1
    rw [Lib.atoi, n1, n2]
    simp only [Bool.false_eq_true, if_false, Lib.decNat, List.isEmpty_cons, hf, Option.map_some]
    simp [Nat.mod_eq_of_lt h]
end Go.Al
end
section
set_option linter.unusedVariables false
namespace Go.Proofs.YtjcikceophcooaaDoor.Ty
open Go.Al
theorem mixed : Tryd.prog.follows .mixedOrders = true := by kernel_rfl
theorem size2 : (Tryd.prog.info? 2).map (·.size) = some 1 := by kernel_rfl
theorem size3 : (Tryd.prog.info? 3).map (·.size) = some 1 := by kernel_rfl
theorem zero3 : (Tryd.prog.info? 3).bind (·.zero) = some (.int .i64 0) := by kernel_rfl
theorem size4 : (Tryd.prog.info? 4).map (·.size) = some 1 := by kernel_rfl
theorem size5 : (Tryd.prog.info? 5).map (·.size) = some 1 := by kernel_rfl
theorem zero5 : (Tryd.prog.info? 5).bind (·.zero) = some (.int .u8 0) := by kernel_rfl
theorem size9 : (Tryd.prog.info? 9).map (·.size) = some 1 := by kernel_rfl
theorem zero9 : (Tryd.prog.info? 9).bind (·.zero) = some (.string ⟨#[]⟩) := by kernel_rfl
theorem size20 : (Tryd.prog.info? 20).map (·.size) = some 1 := by kernel_rfl
theorem size21 : (Tryd.prog.info? 21).map (·.size) = some 1 := by kernel_rfl
theorem size22 : (Tryd.prog.info? 22).map (·.size) = some 1 := by kernel_rfl
theorem size26 : (Tryd.prog.info? 26).map (·.size) = some 1 := by kernel_rfl
theorem size28 : (Tryd.prog.info? 28).map (·.size) = some 1 := by kernel_rfl
theorem size29 : (Tryd.prog.info? 29).map (·.size) = some 1 := by kernel_rfl
theorem size31 : (Tryd.prog.info? 31).map (·.size) = some 4 := by kernel_rfl
theorem zero31 : (Tryd.prog.info? 31).bind (·.zero) = some (.agg #[(.int .u16 0), (.int .i64 0), (.slice none 0 0), (.slice none 0 0)]) := by kernel_rfl
theorem size33 : (Tryd.prog.info? 33).map (·.size) = some 8 := by kernel_rfl
theorem zero33 : (Tryd.prog.info? 33).bind (·.zero) = some (.agg #[(.int .i64 0), (.string ⟨#[]⟩), (.string ⟨#[]⟩), (.int .i64 0), (.int .i64 0), (.bool false), (.string ⟨#[]⟩), (.int .i64 0)]) := by kernel_rfl
theorem size37 : (Tryd.prog.info? 37).map (·.size) = some 10 := by kernel_rfl
theorem zero37 : (Tryd.prog.info? 37).bind (·.zero) = some (.agg #[(.int .i64 0), (.int .i64 0), (.int .i64 0), (.int .i64 0), (.string ⟨#[]⟩), (.string ⟨#[]⟩), (.string ⟨#[]⟩), (.string ⟨#[]⟩), (.string ⟨#[]⟩), (.slice none 0 0)]) := by kernel_rfl
theorem size39 : (Tryd.prog.info? 39).map (·.size) = some 1 := by kernel_rfl
theorem size50 : (Tryd.prog.info? 50).map (·.size) = some 1 := by kernel_rfl
theorem size52 : (Tryd.prog.info? 52).map (·.size) = some 2 := by kernel_rfl
theorem zero52 : (Tryd.prog.info? 52).bind (·.zero) = some (.agg #[(.pointer none), (.slice none 0 0)]) := by kernel_rfl
theorem size55 : (Tryd.prog.info? 55).map (·.size) = some 1 := by kernel_rfl
theorem size62 : (Tryd.prog.info? 62).map (·.size) = some 4 := by kernel_rfl
theorem zero62 : (Tryd.prog.info? 62).bind (·.zero) = some (.agg #[(.int .i64 0), (.int .i64 0), (.int .i64 0), (.int .i64 0)]) := by kernel_rfl
theorem size63 : (Tryd.prog.info? 63).map (·.size) = some 1 := by kernel_rfl
theorem size64 : (Tryd.prog.info? 64).map (·.size) = some 1 := by kernel_rfl
theorem zero64 : (Tryd.prog.info? 64).bind (·.zero) = some (.slice none 0 0) := by kernel_rfl
theorem size65 : (Tryd.prog.info? 65).map (·.size) = some 1 := by kernel_rfl
theorem size71 : (Tryd.prog.info? 71).map (·.size) = some 1 := by kernel_rfl
theorem size72 : (Tryd.prog.info? 72).map (·.size) = some 1 := by kernel_rfl
theorem size75 : (Tryd.prog.info? 75).map (·.size) = some 2 := by kernel_rfl
theorem zero75 : (Tryd.prog.info? 75).bind (·.zero) = some (.agg #[(.string ⟨#[]⟩), (.slice none 0 0)]) := by kernel_rfl
theorem size78 : (Tryd.prog.info? 78).map (·.size) = some 1 := by kernel_rfl
theorem size82 : (Tryd.prog.info? 82).map (·.size) = some 1 := by kernel_rfl
theorem size87 : (Tryd.prog.info? 87).map (·.size) = some 1 := by kernel_rfl
theorem size88 : (Tryd.prog.info? 88).map (·.size) = some 1 := by kernel_rfl
theorem size89 : (Tryd.prog.info? 89).map (·.size) = some 1 := by kernel_rfl
theorem size90 : (Tryd.prog.info? 90).map (·.size) = some 9 := by kernel_rfl
theorem zero90 : (Tryd.prog.info? 90).bind (·.zero) = some (.agg #[.nilIface, .nilIface, .nilIface, .nilIface, .nilIface, .nilIface, .nilIface, .nilIface, .nilIface]) := by kernel_rfl
theorem size96 : (Tryd.prog.info? 96).map (·.size) = some 1 := by kernel_rfl
theorem size102 : (Tryd.prog.info? 102).map (·.size) = some 24 := by kernel_rfl
theorem zero102 : (Tryd.prog.info? 102).bind (·.zero) = some (.agg #[(.int .u8 0), (.int .u8 0), (.int .u8 0), (.int .u8 0), (.int .u8 0), (.int .u8 0), (.int .u8 0), (.int .u8 0), (.int .u8 0), (.int .u8 0), (.int .u8 0), (.int .u8 0), (.int .u8 0), (.int .u8 0), (.int .u8 0), (.int .u8 0), (.int .u8 0), (.int .u8 0), (.int .u8 0), (.int .u8 0), (.int .u8 0), (.int .u8 0), (.int .u8 0), (.int .u8 0)]) := by kernel_rfl
theorem size103 : (Tryd.prog.info? 103).map (·.size) = some 1 := by kernel_rfl
theorem size115 : (Tryd.prog.info? 115).map (·.size) = some 20 := by kernel_rfl
theorem zero115 : (Tryd.prog.info? 115).bind (·.zero) = some (.agg #[(.int .u64 0), (.int .u64 0), (.int .u64 0), (.int .u64 0), (.int .u64 0), (.int .u64 0), (.int .u64 0), (.int .u64 0), (.int .u64 0), (.int .u64 0), (.int .u64 0), (.int .u64 0), (.int .u64 0), (.int .u64 0), (.int .u64 0), (.int .u64 0), (.int .u64 0), (.int .u64 0), (.int .u64 0), (.int .u64 0)]) := by kernel_rfl
theorem size116 : (Tryd.prog.info? 116).map (·.size) = some 1 := by kernel_rfl
theorem size117 : (Tryd.prog.info? 117).map (·.size) = some 65 := by kernel_rfl
theorem zero117 : (Tryd.prog.info? 117).bind (·.zero) = some (.agg #[(.int .u8 0), (.int .u8 0), (.int .u8 0), (.int .u8 0), (.int .u8 0), (.int .u8 0), (.int .u8 0), (.int .u8 0), (.int .u8 0), (.int .u8 0), (.int .u8 0), (.int .u8 0), (.int .u8 0), (.int .u8 0), (.int .u8 0), (.int .u8 0), (.int .u8 0), (.int .u8 0), (.int .u8 0), (.int .u8 0), (.int .u8 0), (.int .u8 0), (.int .u8 0), (.int .u8 0), (.int .u8 0), (.int .u8 0), (.int .u8 0), (.int .u8 0), (.int .u8 0), (.int .u8 0), (.int .u8 0), (.int .u8 0), (.int .u8 0), (.int .u8 0), (.int .u8 0), (.int .u8 0), (.int .u8 0), (.int .u8 0), (.int .u8 0), (.int .u8 0), (.int .u8 0), (.int .u8 0), (.int .u8 0), (.int .u8 0), (.int .u8 0), (.int .u8 0), (.int .u8 0), (.int .u8 0), (.int .u8 0), (.int .u8 0), (.int .u8 0), (.int .u8 0), (.int .u8 0), (.int .u8 0), (.int .u8 0), (.int .u8 0), (.int .u8 0), (.int .u8 0), (.int .u8 0), (.int .u8 0), (.int .u8 0), (.int .u8 0), (.int .u8 0), (.int .u8 0), (.int .u8 0)]) := by kernel_rfl
theorem size119 : (Tryd.prog.info? 119).map (·.size) = some 1 := by kernel_rfl
theorem size122 : (Tryd.prog.info? 122).map (·.size) = some 1 := by kernel_rfl
theorem size126 : (Tryd.prog.info? 126).map (·.size) = some 256 := by kernel_rfl
theorem zero126 : (Tryd.prog.info? 126).bind (·.zero) = some (.agg #[(.int .u8 0), (.int .u8 0), (.int .u8 0), (.int .u8 0), (.int .u8 0), (.int .u8 0), (.int .u8 0), (.int .u8 0), (.int .u8 0), (.int .u8 0), (.int .u8 0), (.int .u8 0), (.int .u8 0), (.int .u8 0), (.int .u8 0), (.int .u8 0), (.int .u8 0), (.int .u8 0), (.int .u8 0), (.int .u8 0), (.int .u8 0), (.int .u8 0), (.int .u8 0), (.int .u8 0), (.int .u8 0), (.int .u8 0), (.int .u8 0), (.int .u8 0), (.int .u8 0), (.int .u8 0), (.int .u8 0), (.int .u8 0), (.int .u8 0), (.int .u8 0), (.int .u8 0), (.int .u8 0), (.int .u8 0), (.int .u8 0), (.int .u8 0), (.int .u8 0), (.int .u8 0), (.int .u8 0), (.int .u8 0), (.int .u8 0), (.int .u8 0), (.int .u8 0), (.int .u8 0), (.int .u8 0), (.int .u8 0), (.int .u8 0), (.int .u8 0), (.int .u8 0), (.int .u8 0), (.int .u8 0), (.int .u8 0), (.int .u8 0), (.int .u8 0), (.int .u8 0), (.int .u8 0), (.int .u8 0), (.int .u8 0), (.int .u8 0), (.int .u8 0), (.int .u8 0), (.int .u8 0), (.int .u8 0), (.int .u8 0), (.int .u8 0), (.int .u8 0), (.int .u8 0), (.int .u8 0), (.int .u8 0), (.int .u8 0), (.int .u8 0), (.int .u8 0), (.int .u8 0), (.int .u8 0), (.int .u8 0), (.int .u8 0), (.int .u8 0), (.int .u8 0), (.int .u8 0), (.int .u8 0), (.int .u8 0), (.int .u8 0), (.int .u8 0), (.int .u8 0), (.int .u8 0), (.int .u8 0), (.int .u8 0), (.int .u8 0), (.int .u8 0), (.int .u8 0), (.int .u8 0), (.int .u8 0), (.int .u8 0), (.int .u8 0), (.int .u8 0), (.int .u8 0), (.int .u8 0), (.int .u8 0), (.int .u8 0), (.int .u8 0), (.int .u8 0), (.int .u8 0), (.int .u8 0), (.int .u8 0), (.int .u8 0), (.int .u8 0), (.int .u8 0), (.int .u8 0), (.int .u8 0), (.int .u8 0), (.int .u8 0), (.int .u8 0), (.int .u8 0), (.int .u8 0), (.int .u8 0), (.int .u8 0), (.int .u8 0), (.int .u8 0), (.int .u8 0), (.int .u8 0), (.int .u8 0), (.int .u8 0), (.int .u8 0), (.int .u8 0), (.int .u8 0), (.int .u8 0), (.int .u8 0), (.int .u8 0), (.int .u8 0), (.int .u8 0), (.int .u8 0), (.int .u8 0), (.int .u8 0), (.int .u8 0), (.int .u8 0), (.int .u8 0), (.int .u8 0), (.int .u8 0), (.int .u8 0), (.int .u8 0), (.int .u8 0), (.int .u8 0), (.int .u8 0), (.int .u8 0), (.int .u8 0), (.int .u8 0), (.int .u8 0), (.int .u8 0), (.int .u8 0), (.int .u8 0), (.int .u8 0), (.int .u8 0), (.int .u8 0), (.int .u8 0), (.int .u8 0), (.int .u8 0), (.int .u8 0), (.int .u8 0), (.int .u8 0), (.int .u8 0), (.int .u8 0), (.int .u8 0), (.int .u8 0), (.int .u8 0), (.int .u8 0), (.int .u8 0), (.int .u8 0), (.int .u8 0), (.int .u8 0), (.int .u8 0), (.int .u8 0), (.int .u8 0), (.int .u8 0), (.int .u8 0), (.int .u8 0), (.int .u8 0), (.int .u8 0), (.int .u8 0), (.int .u8 0), (.int .u8 0), (.int .u8 0), (.int .u8 0), (.int .u8 0), (.int .u8 0), (.int .u8 0), (.int .u8 0), (.int .u8 0), (.int .u8 0), (.int .u8 0), (.int .u8 0), (.int .u8 0), (.int .u8 0), (.int .u8 0), (.int .u8 0), (.int .u8 0), (.int .u8 0), (.int .u8 0), (.int .u8 0), (.int .u8 0), (.int .u8 0), (.int .u8 0), (.int .u8 0), (.int .u8 0), (.int .u8 0), (.int .u8 0), (.int .u8 0), (.int .u8 0), (.int .u8 0), (.int .u8 0), (.int .u8 0), (.int .u8 0), (.int .u8 0), (.int .u8 0), (.int .u8 0), (.int .u8 0), (.int .u8 0), (.int .u8 0), (.int .u8 0), (.int .u8 0), (.int .u8 0), (.int .u8 0), (.int .u8 0), (.int .u8 0), (.int .u8 0), (.int .u8 0), (.int .u8 0), (.int .u8 0), (.int .u8 0), (.int .u8 0), (.int .u8 0), (.int .u8 0), (.int .u8 0), (.int .u8 0), (.int .u8 0), (.int .u8 0), (.int .u8 0), (.int .u8 0), (.int .u8 0), (.int .u8 0), (.int .u8 0), (.int .u8 0), (.int .u8 0), (.int .u8 0), (.int .u8 0), (.int .u8 0), (.int .u8 0), (.int .u8 0), (.int .u8 0), (.int .u8 0), (.int .u8 0), (.int .u8 0), (.int .u8 0), (.int .u8 0)]) := by kernel_rfl
theorem size128 : (Tryd.prog.info? 128).map (·.size) = some 2 := by kernel_rfl
theorem zero128 : (Tryd.prog.info? 128).bind (·.zero) = some (.agg #[(.int .u8 0), (.int .u8 0)]) := by kernel_rfl
theorem size129 : (Tryd.prog.info? 129).map (·.size) = some 32 := by kernel_rfl
theorem zero129 : (Tryd.prog.info? 129).bind (·.zero) = some (.agg #[(.int .u8 0), (.int .u8 0), (.int .u8 0), (.int .u8 0), (.int .u8 0), (.int .u8 0), (.int .u8 0), (.int .u8 0), (.int .u8 0), (.int .u8 0), (.int .u8 0), (.int .u8 0), (.int .u8 0), (.int .u8 0), (.int .u8 0), (.int .u8 0), (.int .u8 0), (.int .u8 0), (.int .u8 0), (.int .u8 0), (.int .u8 0), (.int .u8 0), (.int .u8 0), (.int .u8 0), (.int .u8 0), (.int .u8 0), (.int .u8 0), (.int .u8 0), (.int .u8 0), (.int .u8 0), (.int .u8 0), (.int .u8 0)]) := by kernel_rfl
theorem size135 : (Tryd.prog.info? 135).map (·.size) = some 3 := by kernel_rfl
theorem zero135 : (Tryd.prog.info? 135).bind (·.zero) = some (.agg #[(.string ⟨#[]⟩), (.string ⟨#[]⟩), .nilIface]) := by kernel_rfl
theorem size137 : (Tryd.prog.info? 137).map (·.size) = some 32 := by kernel_rfl
theorem zero137 : (Tryd.prog.info? 137).bind (·.zero) = some (.agg #[(.int .u8 0), (.int .u8 0), (.int .u8 0), (.int .u8 0), (.int .u8 0), (.int .u8 0), (.int .u8 0), (.int .u8 0), (.int .u8 0), (.int .u8 0), (.int .u8 0), (.int .u8 0), (.int .u8 0), (.int .u8 0), (.int .u8 0), (.int .u8 0), (.int .u8 0), (.int .u8 0), (.int .u8 0), (.int .u8 0), (.int .u8 0), (.int .u8 0), (.int .u8 0), (.int .u8 0), (.int .u8 0), (.int .u8 0), (.int .u8 0), (.int .u8 0), (.int .u8 0), (.int .u8 0), (.int .u8 0), (.int .u8 0)]) := by kernel_rfl
theorem size138 : (Tryd.prog.info? 138).map (·.size) = some 64 := by kernel_rfl
theorem zero138 : (Tryd.prog.info? 138).bind (·.zero) = some (.agg #[(.int .u8 0), (.int .u8 0), (.int .u8 0), (.int .u8 0), (.int .u8 0), (.int .u8 0), (.int .u8 0), (.int .u8 0), (.int .u8 0), (.int .u8 0), (.int .u8 0), (.int .u8 0), (.int .u8 0), (.int .u8 0), (.int .u8 0), (.int .u8 0), (.int .u8 0), (.int .u8 0), (.int .u8 0), (.int .u8 0), (.int .u8 0), (.int .u8 0), (.int .u8 0), (.int .u8 0), (.int .u8 0), (.int .u8 0), (.int .u8 0), (.int .u8 0), (.int .u8 0), (.int .u8 0), (.int .u8 0), (.int .u8 0), (.int .u8 0), (.int .u8 0), (.int .u8 0), (.int .u8 0), (.int .u8 0), (.int .u8 0), (.int .u8 0), (.int .u8 0), (.int .u8 0), (.int .u8 0), (.int .u8 0), (.int .u8 0), (.int .u8 0), (.int .u8 0), (.int .u8 0), (.int .u8 0), (.int .u8 0), (.int .u8 0), (.int .u8 0), (.int .u8 0), (.int .u8 0), (.int .u8 0), (.int .u8 0), (.int .u8 0), (.int .u8 0), (.int .u8 0), (.int .u8 0), (.int .u8 0), (.int .u8 0), (.int .u8 0), (.int .u8 0), (.int .u8 0)]) := by kernel_rfl
theorem size140 : (Tryd.prog.info? 140).map (·.size) = some 1 := by kernel_rfl
theorem size142 : (Tryd.prog.info? 142).map (·.size) = some 1 := by kernel_rfl
theorem zero142 : (Tryd.prog.info? 142).bind (·.zero) = some (.agg #[(.string ⟨#[]⟩)]) := by kernel_rfl
-- slice 26 of 5: 1 cells, 1 bytes
-- slice 29 of 33: 8 cells, 88 bytes
-- slice 39 of 37: 10 cells, 136 bytes
-- slice 63 of 3: 1 cells, 8 bytes
-- slice 64 of 9: 1 cells, 16 bytes
-- slice 65 of 64: 1 cells, 24 bytes
-- slice 72 of 75: 2 cells, 40 bytes
end Go.Proofs.YtjcikceophcooaaDoor.Ty
end
section
set_option linter.unusedVariables false
namespace Go.Proofs.YtjcikceophcooaaDoor.Ty
open Go.Al
instance : TyU Tryd.prog 2 (.int .i64) := ⟨Tryd.underlying2⟩
instance : TyA Tryd.prog 2 false := ⟨_, Tryd.underlying2, rfl⟩
instance : TyS Tryd.prog 2 1 := ⟨Ty.size2⟩
instance : TyU Tryd.prog 3 (.int .i64) := ⟨Tryd.underlying3⟩
instance : TyA Tryd.prog 3 false := ⟨_, Tryd.underlying3, rfl⟩
instance : TyS Tryd.prog 3 1 := ⟨Ty.size3⟩
instance : TyU Tryd.prog 4 .bool := ⟨Tryd.underlying4⟩
instance : TyA Tryd.prog 4 false := ⟨_, Tryd.underlying4, rfl⟩
instance : TyS Tryd.prog 4 1 := ⟨Ty.size4⟩
instance : TyU Tryd.prog 5 (.int .u8) := ⟨Tryd.underlying5⟩
instance : TyA Tryd.prog 5 false := ⟨_, Tryd.underlying5, rfl⟩
instance : TyS Tryd.prog 5 1 := ⟨Ty.size5⟩
instance : TyU Tryd.prog 9 .string := ⟨Tryd.underlying9⟩
instance : TyA Tryd.prog 9 false := ⟨_, Tryd.underlying9, rfl⟩
instance : TyS Tryd.prog 9 1 := ⟨Ty.size9⟩
instance : TyA Tryd.prog 20 false := ⟨_, Tryd.underlying20, rfl⟩
instance : TyS Tryd.prog 20 1 := ⟨Ty.size20⟩
instance : TyU Tryd.prog 21 (.int .i32) := ⟨Tryd.underlying21⟩
instance : TyA Tryd.prog 21 false := ⟨_, Tryd.underlying21, rfl⟩
instance : TyS Tryd.prog 21 1 := ⟨Ty.size21⟩
instance : TyU Tryd.prog 22 (.int .u16) := ⟨Tryd.underlying22⟩
instance : TyA Tryd.prog 22 false := ⟨_, Tryd.underlying22, rfl⟩
instance : TyS Tryd.prog 22 1 := ⟨Ty.size22⟩
instance : TyU Tryd.prog 26 (.slice 5) := ⟨Tryd.underlying26⟩
instance : TyA Tryd.prog 26 false := ⟨_, Tryd.underlying26, rfl⟩
instance : TyS Tryd.prog 26 1 := ⟨Ty.size26⟩
instance : SlI Tryd.prog 26 1 := .of (z := (.int .u8 0)) Tryd.underlying26 Ty.size5 Ty.zero5 rfl (by decide)
instance : TyU Tryd.prog 28 (.int .u16) := ⟨Tryd.underlying28⟩
instance : TyA Tryd.prog 28 false := ⟨_, Tryd.underlying28, rfl⟩
instance : TyS Tryd.prog 28 1 := ⟨Ty.size28⟩
instance : TyU Tryd.prog 29 (.slice 33) := ⟨Tryd.underlying29⟩
instance : TyA Tryd.prog 29 false := ⟨_, Tryd.underlying29, rfl⟩
instance : TyS Tryd.prog 29 1 := ⟨Ty.size29⟩
instance : SlI Tryd.prog 29 8 := .of (z := (.agg #[(.int .i64 0), (.string ⟨#[]⟩), (.string ⟨#[]⟩), (.int .i64 0), (.int .i64 0), (.bool false), (.string ⟨#[]⟩), (.int .i64 0)])) Tryd.underlying29 Ty.size33 Ty.zero33 rfl (by decide)
instance : TyA Tryd.prog 31 true := ⟨_, Tryd.underlying31, rfl⟩
instance : TyS Tryd.prog 31 4 := ⟨Ty.size31⟩
instance : BldI Tryd.prog 31 [(.int .u16 0), (.int .i64 0), .nils, .nils] [(0, 1), (1, 1), (2, 1), (3, 1)] := .struct (za := #[(.int .u16 0), (.int .i64 0), (.slice none 0 0), (.slice none 0 0)]) Tryd.underlying31 Ty.zero31 (by kernel_rfl) (by kernel_rfl) (by kernel_rfl) (by kernel_rfl)
instance : TyF Tryd.prog 31 0 28 0 1 false := ⟨_, _, _, Tryd.underlying31, rfl, rfl, rfl, Ty.size28, Tryd.underlying28, rfl⟩
instance : TyF Tryd.prog 31 1 3 1 1 false := ⟨_, _, _, Tryd.underlying31, rfl, rfl, rfl, Ty.size3, Tryd.underlying3, rfl⟩
instance : TyF Tryd.prog 31 2 29 2 1 false := ⟨_, _, _, Tryd.underlying31, rfl, rfl, rfl, Ty.size29, Tryd.underlying29, rfl⟩
instance : TyF Tryd.prog 31 3 26 3 1 false := ⟨_, _, _, Tryd.underlying31, rfl, rfl, rfl, Ty.size26, Tryd.underlying26, rfl⟩
instance : TyA Tryd.prog 33 true := ⟨_, Tryd.underlying33, rfl⟩
instance : TyS Tryd.prog 33 8 := ⟨Ty.size33⟩
instance : BldI Tryd.prog 33 [(.int .i64 0), .str [], .str [], (.int .i64 0), (.int .i64 0), (.bool false), .str [], (.int .i64 0)] [(0, 1), (1, 1), (2, 1), (3, 1), (4, 1), (5, 1), (6, 1), (7, 1)] := .struct (za := #[(.int .i64 0), (.string ⟨#[]⟩), (.string ⟨#[]⟩), (.int .i64 0), (.int .i64 0), (.bool false), (.string ⟨#[]⟩), (.int .i64 0)]) Tryd.underlying33 Ty.zero33 (by kernel_rfl) (by kernel_rfl) (by kernel_rfl) (by kernel_rfl)
instance : TyF Tryd.prog 33 0 3 0 1 false := ⟨_, _, _, Tryd.underlying33, rfl, rfl, rfl, Ty.size3, Tryd.underlying3, rfl⟩
instance : TyF Tryd.prog 33 1 9 1 1 false := ⟨_, _, _, Tryd.underlying33, rfl, rfl, rfl, Ty.size9, Tryd.underlying9, rfl⟩
instance : TyF Tryd.prog 33 2 9 2 1 false := ⟨_, _, _, Tryd.underlying33, rfl, rfl, rfl, Ty.size9, Tryd.underlying9, rfl⟩
instance : TyF Tryd.prog 33 3 3 3 1 false := ⟨_, _, _, Tryd.underlying33, rfl, rfl, rfl, Ty.size3, Tryd.underlying3, rfl⟩
instance : TyF Tryd.prog 33 4 3 4 1 false := ⟨_, _, _, Tryd.underlying33, rfl, rfl, rfl, Ty.size3, Tryd.underlying3, rfl⟩
instance : TyF Tryd.prog 33 5 4 5 1 false := ⟨_, _, _, Tryd.underlying33, rfl, rfl, rfl, Ty.size4, Tryd.underlying4, rfl⟩
instance : TyF Tryd.prog 33 6 9 6 1 false := ⟨_, _, _, Tryd.underlying33, rfl, rfl, rfl, Ty.size9, Tryd.underlying9, rfl⟩
instance : TyF Tryd.prog 33 7 3 7 1 false := ⟨_, _, _, Tryd.underlying33, rfl, rfl, rfl, Ty.size3, Tryd.underlying3, rfl⟩
instance : TyA Tryd.prog 37 true := ⟨_, Tryd.underlying37, rfl⟩
instance : TyS Tryd.prog 37 10 := ⟨Ty.size37⟩
instance : BldI Tryd.prog 37 [(.int .i64 0), (.int .i64 0), (.int .i64 0), (.int .i64 0), .str [], .str [], .str [], .str [], .str [], .nils] [(0, 1), (1, 1), (2, 1), (3, 1), (4, 1), (5, 1), (6, 1), (7, 1), (8, 1), (9, 1)] := .struct (za := #[(.int .i64 0), (.int .i64 0), (.int .i64 0), (.int .i64 0), (.string ⟨#[]⟩), (.string ⟨#[]⟩), (.string ⟨#[]⟩), (.string ⟨#[]⟩), (.string ⟨#[]⟩), (.slice none 0 0)]) Tryd.underlying37 Ty.zero37 (by kernel_rfl) (by kernel_rfl) (by kernel_rfl) (by kernel_rfl)
instance : TyF Tryd.prog 37 0 3 0 1 false := ⟨_, _, _, Tryd.underlying37, rfl, rfl, rfl, Ty.size3, Tryd.underlying3, rfl⟩
instance : TyF Tryd.prog 37 1 3 1 1 false := ⟨_, _, _, Tryd.underlying37, rfl, rfl, rfl, Ty.size3, Tryd.underlying3, rfl⟩
instance : TyF Tryd.prog 37 2 3 2 1 false := ⟨_, _, _, Tryd.underlying37, rfl, rfl, rfl, Ty.size3, Tryd.underlying3, rfl⟩
instance : TyF Tryd.prog 37 3 3 3 1 false := ⟨_, _, _, Tryd.underlying37, rfl, rfl, rfl, Ty.size3, Tryd.underlying3, rfl⟩
instance : TyF Tryd.prog 37 4 9 4 1 false := ⟨_, _, _, Tryd.underlying37, rfl, rfl, rfl, Ty.size9, Tryd.underlying9, rfl⟩
instance : TyF Tryd.prog 37 5 9 5 1 false := ⟨_, _, _, Tryd.underlying37, rfl, rfl, rfl, Ty.size9, Tryd.underlying9, rfl⟩
instance : TyF Tryd.prog 37 6 9 6 1 false := ⟨_, _, _, Tryd.underlying37, rfl, rfl, rfl, Ty.size9, Tryd.underlying9, rfl⟩
instance : TyF Tryd.prog 37 7 9 7 1 false := ⟨_, _, _, Tryd.underlying37, rfl, rfl, rfl, Ty.size9, Tryd.underlying9, rfl⟩
instance : TyF Tryd.prog 37 8 9 8 1 false := ⟨_, _, _, Tryd.underlying37, rfl, rfl, rfl, Ty.size9, Tryd.underlying9, rfl⟩
instance : TyF Tryd.prog 37 9 26 9 1 false := ⟨_, _, _, Tryd.underlying37, rfl, rfl, rfl, Ty.size26, Tryd.underlying26, rfl⟩
instance : TyU Tryd.prog 39 (.slice 37) := ⟨Tryd.underlying39⟩
instance : TyA Tryd.prog 39 false := ⟨_, Tryd.underlying39, rfl⟩
instance : TyS Tryd.prog 39 1 := ⟨Ty.size39⟩
instance : SlI Tryd.prog 39 10 := .of (z := (.agg #[(.int .i64 0), (.int .i64 0), (.int .i64 0), (.int .i64 0), (.string ⟨#[]⟩), (.string ⟨#[]⟩), (.string ⟨#[]⟩), (.string ⟨#[]⟩), (.string ⟨#[]⟩), (.slice none 0 0)])) Tryd.underlying39 Ty.size37 Ty.zero37 rfl (by decide)
instance : TyU Tryd.prog 50 (.pointer 52) := ⟨Tryd.underlying50⟩
instance : TyA Tryd.prog 50 false := ⟨_, Tryd.underlying50, rfl⟩
instance : TyS Tryd.prog 50 1 := ⟨Ty.size50⟩
instance : TyA Tryd.prog 52 true := ⟨_, Tryd.underlying52, rfl⟩
instance : TyS Tryd.prog 52 2 := ⟨Ty.size52⟩
instance : BldI Tryd.prog 52 [.nilp, .nils] [(0, 1), (1, 1)] := .struct (za := #[(.pointer none), (.slice none 0 0)]) Tryd.underlying52 Ty.zero52 (by kernel_rfl) (by kernel_rfl) (by kernel_rfl) (by kernel_rfl)
instance : TyF Tryd.prog 52 0 50 0 1 false := ⟨_, _, _, Tryd.underlying52, rfl, rfl, rfl, Ty.size50, Tryd.underlying50, rfl⟩
instance : TyF Tryd.prog 52 1 26 1 1 false := ⟨_, _, _, Tryd.underlying52, rfl, rfl, rfl, Ty.size26, Tryd.underlying26, rfl⟩
instance : TyA Tryd.prog 55 false := ⟨_, Tryd.underlying55, rfl⟩
instance : TyS Tryd.prog 55 1 := ⟨Ty.size55⟩
instance : TyU Tryd.prog 62 (.array 4 3) := ⟨Tryd.underlying62⟩
instance : TyA Tryd.prog 62 true := ⟨_, Tryd.underlying62, rfl⟩
instance : TyS Tryd.prog 62 4 := ⟨Ty.size62⟩
instance : BldI Tryd.prog 62 [(.int .i64 0), (.int .i64 0), (.int .i64 0), (.int .i64 0)] ((List.range 4).map fun j => (j * 1, 1)) := .array (za := #[(.int .i64 0), (.int .i64 0), (.int .i64 0), (.int .i64 0)]) Tryd.underlying62 Ty.zero62 (by kernel_rfl) Ty.size3 (by kernel_rfl)
instance : TyU Tryd.prog 63 (.slice 3) := ⟨Tryd.underlying63⟩
instance : TyA Tryd.prog 63 false := ⟨_, Tryd.underlying63, rfl⟩
instance : TyS Tryd.prog 63 1 := ⟨Ty.size63⟩
instance : SlI Tryd.prog 63 1 := .of (z := (.int .i64 0)) Tryd.underlying63 Ty.size3 Ty.zero3 rfl (by decide)
instance : TyU Tryd.prog 64 (.slice 9) := ⟨Tryd.underlying64⟩
instance : TyA Tryd.prog 64 false := ⟨_, Tryd.underlying64, rfl⟩
instance : TyS Tryd.prog 64 1 := ⟨Ty.size64⟩
instance : SlI Tryd.prog 64 1 := .of (z := (.string ⟨#[]⟩)) Tryd.underlying64 Ty.size9 Ty.zero9 rfl (by decide)
instance : TyU Tryd.prog 65 (.slice 64) := ⟨Tryd.underlying65⟩
instance : TyA Tryd.prog 65 false := ⟨_, Tryd.underlying65, rfl⟩
instance : TyS Tryd.prog 65 1 := ⟨Ty.size65⟩
instance : SlI Tryd.prog 65 1 := .of (z := (.slice none 0 0)) Tryd.underlying65 Ty.size64 Ty.zero64 rfl (by decide)
instance : TyU Tryd.prog 71 (.int .u64) := ⟨Tryd.underlying71⟩
instance : TyA Tryd.prog 71 false := ⟨_, Tryd.underlying71, rfl⟩
instance : TyS Tryd.prog 71 1 := ⟨Ty.size71⟩
instance : TyU Tryd.prog 72 (.slice 75) := ⟨Tryd.underlying72⟩
instance : TyA Tryd.prog 72 false := ⟨_, Tryd.underlying72, rfl⟩
instance : TyS Tryd.prog 72 1 := ⟨Ty.size72⟩
instance : SlI Tryd.prog 72 2 := .of (z := (.agg #[(.string ⟨#[]⟩), (.slice none 0 0)])) Tryd.underlying72 Ty.size75 Ty.zero75 rfl (by decide)
instance : TyA Tryd.prog 75 true := ⟨_, Tryd.underlying75, rfl⟩
instance : TyS Tryd.prog 75 2 := ⟨Ty.size75⟩
instance : BldI Tryd.prog 75 [.str [], .nils] [(0, 1), (1, 1)] := .struct (za := #[(.string ⟨#[]⟩), (.slice none 0 0)]) Tryd.underlying75 Ty.zero75 (by kernel_rfl) (by kernel_rfl) (by kernel_rfl) (by kernel_rfl)
instance : TyF Tryd.prog 75 0 9 0 1 false := ⟨_, _, _, Tryd.underlying75, rfl, rfl, rfl, Ty.size9, Tryd.underlying9, rfl⟩
instance : TyF Tryd.prog 75 1 63 1 1 false := ⟨_, _, _, Tryd.underlying75, rfl, rfl, rfl, Ty.size63, Tryd.underlying63, rfl⟩
instance : TyU Tryd.prog 78 (.pointer 37) := ⟨Tryd.underlying78⟩
instance : TyA Tryd.prog 78 false := ⟨_, Tryd.underlying78, rfl⟩
instance : TyS Tryd.prog 78 1 := ⟨Ty.size78⟩
instance : TyU Tryd.prog 82 (.pointer 5) := ⟨Tryd.underlying82⟩
instance : TyA Tryd.prog 82 false := ⟨_, Tryd.underlying82, rfl⟩
instance : TyS Tryd.prog 82 1 := ⟨Ty.size82⟩
instance : TyU Tryd.prog 87 (.pointer 9) := ⟨Tryd.underlying87⟩
instance : TyA Tryd.prog 87 false := ⟨_, Tryd.underlying87, rfl⟩
instance : TyS Tryd.prog 87 1 := ⟨Ty.size87⟩
instance : TyU Tryd.prog 88 (.pointer 26) := ⟨Tryd.underlying88⟩
instance : TyA Tryd.prog 88 false := ⟨_, Tryd.underlying88, rfl⟩
instance : TyS Tryd.prog 88 1 := ⟨Ty.size88⟩
instance : TyU Tryd.prog 89 (.pointer 3) := ⟨Tryd.underlying89⟩
instance : TyA Tryd.prog 89 false := ⟨_, Tryd.underlying89, rfl⟩
instance : TyS Tryd.prog 89 1 := ⟨Ty.size89⟩
instance : TyU Tryd.prog 90 (.array 9 20) := ⟨Tryd.underlying90⟩
instance : TyA Tryd.prog 90 true := ⟨_, Tryd.underlying90, rfl⟩
instance : TyS Tryd.prog 90 9 := ⟨Ty.size90⟩
instance : BldI Tryd.prog 90 [.nilifc, .nilifc, .nilifc, .nilifc, .nilifc, .nilifc, .nilifc, .nilifc, .nilifc] ((List.range 9).map fun j => (j * 1, 1)) := .array (za := #[.nilIface, .nilIface, .nilIface, .nilIface, .nilIface, .nilIface, .nilIface, .nilIface, .nilIface]) Tryd.underlying90 Ty.zero90 (by kernel_rfl) Ty.size20 (by kernel_rfl)
instance : TyA Tryd.prog 96 false := ⟨_, Tryd.underlying96, rfl⟩
instance : TyS Tryd.prog 96 1 := ⟨Ty.size96⟩
instance : TyU Tryd.prog 102 (.array 24 5) := ⟨Tryd.underlying102⟩
instance : TyA Tryd.prog 102 true := ⟨_, Tryd.underlying102, rfl⟩
instance : TyS Tryd.prog 102 24 := ⟨Ty.size102⟩
instance : BldI Tryd.prog 102 [(.int .u8 0), (.int .u8 0), (.int .u8 0), (.int .u8 0), (.int .u8 0), (.int .u8 0), (.int .u8 0), (.int .u8 0), (.int .u8 0), (.int .u8 0), (.int .u8 0), (.int .u8 0), (.int .u8 0), (.int .u8 0), (.int .u8 0), (.int .u8 0), (.int .u8 0), (.int .u8 0), (.int .u8 0), (.int .u8 0), (.int .u8 0), (.int .u8 0), (.int .u8 0), (.int .u8 0)] ((List.range 24).map fun j => (j * 1, 1)) := .array (za := #[(.int .u8 0), (.int .u8 0), (.int .u8 0), (.int .u8 0), (.int .u8 0), (.int .u8 0), (.int .u8 0), (.int .u8 0), (.int .u8 0), (.int .u8 0), (.int .u8 0), (.int .u8 0), (.int .u8 0), (.int .u8 0), (.int .u8 0), (.int .u8 0), (.int .u8 0), (.int .u8 0), (.int .u8 0), (.int .u8 0), (.int .u8 0), (.int .u8 0), (.int .u8 0), (.int .u8 0)]) Tryd.underlying102 Ty.zero102 (by kernel_rfl) Ty.size5 (by kernel_rfl)
instance : TyU Tryd.prog 103 (.int .u64) := ⟨Tryd.underlying103⟩
instance : TyA Tryd.prog 103 false := ⟨_, Tryd.underlying103, rfl⟩
instance : TyS Tryd.prog 103 1 := ⟨Ty.size103⟩
instance : TyU Tryd.prog 115 (.array 20 103) := ⟨Tryd.underlying115⟩
instance : TyA Tryd.prog 115 true := ⟨_, Tryd.underlying115, rfl⟩
instance : TyS Tryd.prog 115 20 := ⟨Ty.size115⟩
instance : BldI Tryd.prog 115 [(.int .u64 0), (.int .u64 0), (.int .u64 0), (.int .u64 0), (.int .u64 0), (.int .u64 0), (.int .u64 0), (.int .u64 0), (.int .u64 0), (.int .u64 0), (.int .u64 0), (.int .u64 0), (.int .u64 0), (.int .u64 0), (.int .u64 0), (.int .u64 0), (.int .u64 0), (.int .u64 0), (.int .u64 0), (.int .u64 0)] ((List.range 20).map fun j => (j * 1, 1)) := .array (za := #[(.int .u64 0), (.int .u64 0), (.int .u64 0), (.int .u64 0), (.int .u64 0), (.int .u64 0), (.int .u64 0), (.int .u64 0), (.int .u64 0), (.int .u64 0), (.int .u64 0), (.int .u64 0), (.int .u64 0), (.int .u64 0), (.int .u64 0), (.int .u64 0), (.int .u64 0), (.int .u64 0), (.int .u64 0), (.int .u64 0)]) Tryd.underlying115 Ty.zero115 (by kernel_rfl) Ty.size103 (by kernel_rfl)
instance : TyU Tryd.prog 116 (.int .u32) := ⟨Tryd.underlying116⟩
instance : TyA Tryd.prog 116 false := ⟨_, Tryd.underlying116, rfl⟩
instance : TyS Tryd.prog 116 1 := ⟨Ty.size116⟩
instance : TyU Tryd.prog 117 (.array 65 5) := ⟨Tryd.underlying117⟩
instance : TyA Tryd.prog 117 true := ⟨_, Tryd.underlying117, rfl⟩
instance : TyS Tryd.prog 117 65 := ⟨Ty.size117⟩
instance : BldI Tryd.prog 117 [(.int .u8 0), (.int .u8 0), (.int .u8 0), (.int .u8 0), (.int .u8 0), (.int .u8 0), (.int .u8 0), (.int .u8 0), (.int .u8 0), (.int .u8 0), (.int .u8 0), (.int .u8 0), (.int .u8 0), (.int .u8 0), (.int .u8 0), (.int .u8 0), (.int .u8 0), (.int .u8 0), (.int .u8 0), (.int .u8 0), (.int .u8 0), (.int .u8 0), (.int .u8 0), (.int .u8 0), (.int .u8 0), (.int .u8 0), (.int .u8 0), (.int .u8 0), (.int .u8 0), (.int .u8 0), (.int .u8 0), (.int .u8 0), (.int .u8 0), (.int .u8 0), (.int .u8 0), (.int .u8 0), (.int .u8 0), (.int .u8 0), (.int .u8 0), (.int .u8 0), (.int .u8 0), (.int .u8 0), (.int .u8 0), (.int .u8 0), (.int .u8 0), (.int .u8 0), (.int .u8 0), (.int .u8 0), (.int .u8 0), (.int .u8 0), (.int .u8 0), (.int .u8 0), (.int .u8 0), (.int .u8 0), (.int .u8 0), (.int .u8 0), (.int .u8 0), (.int .u8 0), (.int .u8 0), (.int .u8 0), (.int .u8 0), (.int .u8 0), (.int .u8 0), (.int .u8 0), (.int .u8 0)] ((List.range 65).map fun j => (j * 1, 1)) := .array (za := #[(.int .u8 0), (.int .u8 0), (.int .u8 0), (.int .u8 0), (.int .u8 0), (.int .u8 0), (.int .u8 0), (.int .u8 0), (.int .u8 0), (.int .u8 0), (.int .u8 0), (.int .u8 0), (.int .u8 0), (.int .u8 0), (.int .u8 0), (.int .u8 0), (.int .u8 0), (.int .u8 0), (.int .u8 0), (.int .u8 0), (.int .u8 0), (.int .u8 0), (.int .u8 0), (.int .u8 0), (.int .u8 0), (.int .u8 0), (.int .u8 0), (.int .u8 0), (.int .u8 0), (.int .u8 0), (.int .u8 0), (.int .u8 0), (.int .u8 0), (.int .u8 0), (.int .u8 0), (.int .u8 0), (.int .u8 0), (.int .u8 0), (.int .u8 0), (.int .u8 0), (.int .u8 0), (.int .u8 0), (.int .u8 0), (.int .u8 0), (.int .u8 0), (.int .u8 0), (.int .u8 0), (.int .u8 0), (.int .u8 0), (.int .u8 0), (.int .u8 0), (.int .u8 0), (.int .u8 0), (.int .u8 0), (.int .u8 0), (.int .u8 0), (.int .u8 0), (.int .u8 0), (.int .u8 0), (.int .u8 0), (.int .u8 0), (.int .u8 0), (.int .u8 0), (.int .u8 0), (.int .u8 0)]) Tryd.underlying117 Ty.zero117 (by kernel_rfl) Ty.size5 (by kernel_rfl)
instance : TyU Tryd.prog 119 (.int .i64) := ⟨Tryd.underlying119⟩
instance : TyA Tryd.prog 119 false := ⟨_, Tryd.underlying119, rfl⟩
instance : TyS Tryd.prog 119 1 := ⟨Ty.size119⟩
instance : TyU Tryd.prog 122 (.pointer 135) := ⟨Tryd.underlying122⟩
instance : TyA Tryd.prog 122 false := ⟨_, Tryd.underlying122, rfl⟩
instance : TyS Tryd.prog 122 1 := ⟨Ty.size122⟩
instance : TyU Tryd.prog 126 (.array 256 5) := ⟨Tryd.underlying126⟩
instance : TyA Tryd.prog 126 true := ⟨_, Tryd.underlying126, rfl⟩
instance : TyS Tryd.prog 126 256 := ⟨Ty.size126⟩
instance : BldI Tryd.prog 126 [(.int .u8 0), (.int .u8 0), (.int .u8 0), (.int .u8 0), (.int .u8 0), (.int .u8 0), (.int .u8 0), (.int .u8 0), (.int .u8 0), (.int .u8 0), (.int .u8 0), (.int .u8 0), (.int .u8 0), (.int .u8 0), (.int .u8 0), (.int .u8 0), (.int .u8 0), (.int .u8 0), (.int .u8 0), (.int .u8 0), (.int .u8 0), (.int .u8 0), (.int .u8 0), (.int .u8 0), (.int .u8 0), (.int .u8 0), (.int .u8 0), (.int .u8 0), (.int .u8 0), (.int .u8 0), (.int .u8 0), (.int .u8 0), (.int .u8 0), (.int .u8 0), (.int .u8 0), (.int .u8 0), (.int .u8 0), (.int .u8 0), (.int .u8 0), (.int .u8 0), (.int .u8 0), (.int .u8 0), (.int .u8 0), (.int .u8 0), (.int .u8 0), (.int .u8 0), (.int .u8 0), (.int .u8 0), (.int .u8 0), (.int .u8 0), (.int .u8 0), (.int .u8 0), (.int .u8 0), (.int .u8 0), (.int .u8 0), (.int .u8 0), (.int .u8 0), (.int .u8 0), (.int .u8 0), (.int .u8 0), (.int .u8 0), (.int .u8 0), (.int .u8 0), (.int .u8 0), (.int .u8 0), (.int .u8 0), (.int .u8 0), (.int .u8 0), (.int .u8 0), (.int .u8 0), (.int .u8 0), (.int .u8 0), (.int .u8 0), (.int .u8 0), (.int .u8 0), (.int .u8 0), (.int .u8 0), (.int .u8 0), (.int .u8 0), (.int .u8 0), (.int .u8 0), (.int .u8 0), (.int .u8 0), (.int .u8 0), (.int .u8 0), (.int .u8 0), (.int .u8 0), (.int .u8 0), (.int .u8 0), (.int .u8 0), (.int .u8 0), (.int .u8 0), (.int .u8 0), (.int .u8 0), (.int .u8 0), (.int .u8 0), (.int .u8 0), (.int .u8 0), (.int .u8 0), (.int .u8 0), (.int .u8 0), (.int .u8 0), (.int .u8 0), (.int .u8 0), (.int .u8 0), (.int .u8 0), (.int .u8 0), (.int .u8 0), (.int .u8 0), (.int .u8 0), (.int .u8 0), (.int .u8 0), (.int .u8 0), (.int .u8 0), (.int .u8 0), (.int .u8 0), (.int .u8 0), (.int .u8 0), (.int .u8 0), (.int .u8 0), (.int .u8 0), (.int .u8 0), (.int .u8 0), (.int .u8 0), (.int .u8 0), (.int .u8 0), (.int .u8 0), (.int .u8 0), (.int .u8 0), (.int .u8 0), (.int .u8 0), (.int .u8 0), (.int .u8 0), (.int .u8 0), (.int .u8 0), (.int .u8 0), (.int .u8 0), (.int .u8 0), (.int .u8 0), (.int .u8 0), (.int .u8 0), (.int .u8 0), (.int .u8 0), (.int .u8 0), (.int .u8 0), (.int .u8 0), (.int .u8 0), (.int .u8 0), (.int .u8 0), (.int .u8 0), (.int .u8 0), (.int .u8 0), (.int .u8 0), (.int .u8 0), (.int .u8 0), (.int .u8 0), (.int .u8 0), (.int .u8 0), (.int .u8 0), (.int .u8 0), (.int .u8 0), (.int .u8 0), (.int .u8 0), (.int .u8 0), (.int .u8 0), (.int .u8 0), (.int .u8 0), (.int .u8 0), (.int .u8 0), (.int .u8 0), (.int .u8 0), (.int .u8 0), (.int .u8 0), (.int .u8 0), (.int .u8 0), (.int .u8 0), (.int .u8 0), (.int .u8 0), (.int .u8 0), (.int .u8 0), (.int .u8 0), (.int .u8 0), (.int .u8 0), (.int .u8 0), (.int .u8 0), (.int .u8 0), (.int .u8 0), (.int .u8 0), (.int .u8 0), (.int .u8 0), (.int .u8 0), (.int .u8 0), (.int .u8 0), (.int .u8 0), (.int .u8 0), (.int .u8 0), (.int .u8 0), (.int .u8 0), (.int .u8 0), (.int .u8 0), (.int .u8 0), (.int .u8 0), (.int .u8 0), (.int .u8 0), (.int .u8 0), (.int .u8 0), (.int .u8 0), (.int .u8 0), (.int .u8 0), (.int .u8 0), (.int .u8 0), (.int .u8 0), (.int .u8 0), (.int .u8 0), (.int .u8 0), (.int .u8 0), (.int .u8 0), (.int .u8 0), (.int .u8 0), (.int .u8 0), (.int .u8 0), (.int .u8 0), (.int .u8 0), (.int .u8 0), (.int .u8 0), (.int .u8 0), (.int .u8 0), (.int .u8 0), (.int .u8 0), (.int .u8 0), (.int .u8 0), (.int .u8 0), (.int .u8 0), (.int .u8 0), (.int .u8 0), (.int .u8 0), (.int .u8 0), (.int .u8 0), (.int .u8 0), (.int .u8 0), (.int .u8 0), (.int .u8 0), (.int .u8 0), (.int .u8 0), (.int .u8 0), (.int .u8 0), (.int .u8 0), (.int .u8 0), (.int .u8 0), (.int .u8 0), (.int .u8 0), (.int .u8 0), (.int .u8 0), (.int .u8 0), (.int .u8 0), (.int .u8 0)] ((List.range 256).map fun j => (j * 1, 1)) := .array (za := #[(.int .u8 0), (.int .u8 0), (.int .u8 0), (.int .u8 0), (.int .u8 0), (.int .u8 0), (.int .u8 0), (.int .u8 0), (.int .u8 0), (.int .u8 0), (.int .u8 0), (.int .u8 0), (.int .u8 0), (.int .u8 0), (.int .u8 0), (.int .u8 0), (.int .u8 0), (.int .u8 0), (.int .u8 0), (.int .u8 0), (.int .u8 0), (.int .u8 0), (.int .u8 0), (.int .u8 0), (.int .u8 0), (.int .u8 0), (.int .u8 0), (.int .u8 0), (.int .u8 0), (.int .u8 0), (.int .u8 0), (.int .u8 0), (.int .u8 0), (.int .u8 0), (.int .u8 0), (.int .u8 0), (.int .u8 0), (.int .u8 0), (.int .u8 0), (.int .u8 0), (.int .u8 0), (.int .u8 0), (.int .u8 0), (.int .u8 0), (.int .u8 0), (.int .u8 0), (.int .u8 0), (.int .u8 0), (.int .u8 0), (.int .u8 0), (.int .u8 0), (.int .u8 0), (.int .u8 0), (.int .u8 0), (.int .u8 0), (.int .u8 0), (.int .u8 0), (.int .u8 0), (.int .u8 0), (.int .u8 0), (.int .u8 0), (.int .u8 0), (.int .u8 0), (.int .u8 0), (.int .u8 0), (.int .u8 0), (.int .u8 0), (.int .u8 0), (.int .u8 0), (.int .u8 0), (.int .u8 0), (.int .u8 0), (.int .u8 0), (.int .u8 0), (.int .u8 0), (.int .u8 0), (.int .u8 0), (.int .u8 0), (.int .u8 0), (.int .u8 0), (.int .u8 0), (.int .u8 0), (.int .u8 0), (.int .u8 0), (.int .u8 0), (.int .u8 0), (.int .u8 0), (.int .u8 0), (.int .u8 0), (.int .u8 0), (.int .u8 0), (.int .u8 0), (.int .u8 0), (.int .u8 0), (.int .u8 0), (.int .u8 0), (.int .u8 0), (.int .u8 0), (.int .u8 0), (.int .u8 0), (.int .u8 0), (.int .u8 0), (.int .u8 0), (.int .u8 0), (.int .u8 0), (.int .u8 0), (.int .u8 0), (.int .u8 0), (.int .u8 0), (.int .u8 0), (.int .u8 0), (.int .u8 0), (.int .u8 0), (.int .u8 0), (.int .u8 0), (.int .u8 0), (.int .u8 0), (.int .u8 0), (.int .u8 0), (.int .u8 0), (.int .u8 0), (.int .u8 0), (.int .u8 0), (.int .u8 0), (.int .u8 0), (.int .u8 0), (.int .u8 0), (.int .u8 0), (.int .u8 0), (.int .u8 0), (.int .u8 0), (.int .u8 0), (.int .u8 0), (.int .u8 0), (.int .u8 0), (.int .u8 0), (.int .u8 0), (.int .u8 0), (.int .u8 0), (.int .u8 0), (.int .u8 0), (.int .u8 0), (.int .u8 0), (.int .u8 0), (.int .u8 0), (.int .u8 0), (.int .u8 0), (.int .u8 0), (.int .u8 0), (.int .u8 0), (.int .u8 0), (.int .u8 0), (.int .u8 0), (.int .u8 0), (.int .u8 0), (.int .u8 0), (.int .u8 0), (.int .u8 0), (.int .u8 0), (.int .u8 0), (.int .u8 0), (.int .u8 0), (.int .u8 0), (.int .u8 0), (.int .u8 0), (.int .u8 0), (.int .u8 0), (.int .u8 0), (.int .u8 0), (.int .u8 0), (.int .u8 0), (.int .u8 0), (.int .u8 0), (.int .u8 0), (.int .u8 0), (.int .u8 0), (.int .u8 0), (.int .u8 0), (.int .u8 0), (.int .u8 0), (.int .u8 0), (.int .u8 0), (.int .u8 0), (.int .u8 0), (.int .u8 0), (.int .u8 0), (.int .u8 0), (.int .u8 0), (.int .u8 0), (.int .u8 0), (.int .u8 0), (.int .u8 0), (.int .u8 0), (.int .u8 0), (.int .u8 0), (.int .u8 0), (.int .u8 0), (.int .u8 0), (.int .u8 0), (.int .u8 0), (.int .u8 0), (.int .u8 0), (.int .u8 0), (.int .u8 0), (.int .u8 0), (.int .u8 0), (.int .u8 0), (.int .u8 0), (.int .u8 0), (.int .u8 0), (.int .u8 0), (.int .u8 0), (.int .u8 0), (.int .u8 0), (.int .u8 0), (.int .u8 0), (.int .u8 0), (.int .u8 0), (.int .u8 0), (.int .u8 0), (.int .u8 0), (.int .u8 0), (.int .u8 0), (.int .u8 0), (.int .u8 0), (.int .u8 0), (.int .u8 0), (.int .u8 0), (.int .u8 0), (.int .u8 0), (.int .u8 0), (.int .u8 0), (.int .u8 0), (.int .u8 0), (.int .u8 0), (.int .u8 0), (.int .u8 0), (.int .u8 0), (.int .u8 0), (.int .u8 0), (.int .u8 0), (.int .u8 0), (.int .u8 0), (.int .u8 0), (.int .u8 0), (.int .u8 0), (.int .u8 0), (.int .u8 0), (.int .u8 0), (.int .u8 0), (.int .u8 0), (.int .u8 0), (.int .u8 0), (.int .u8 0), (.int .u8 0), (.int .u8 0)]) Tryd.underlying126 Ty.zero126 (by kernel_rfl) Ty.size5 (by kernel_rfl)
instance : TyA Tryd.prog 128 true := ⟨_, Tryd.underlying128, rfl⟩
instance : TyS Tryd.prog 128 2 := ⟨Ty.size128⟩
instance : BldI Tryd.prog 128 [(.int .u8 0), (.int .u8 0)] [(0, 1), (1, 1)] := .struct (za := #[(.int .u8 0), (.int .u8 0)]) Tryd.underlying128 Ty.zero128 (by kernel_rfl) (by kernel_rfl) (by kernel_rfl) (by kernel_rfl)
instance : TyF Tryd.prog 128 0 5 0 1 false := ⟨_, _, _, Tryd.underlying128, rfl, rfl, rfl, Ty.size5, Tryd.underlying5, rfl⟩
instance : TyF Tryd.prog 128 1 5 1 1 false := ⟨_, _, _, Tryd.underlying128, rfl, rfl, rfl, Ty.size5, Tryd.underlying5, rfl⟩
instance : TyU Tryd.prog 129 (.array 16 128) := ⟨Tryd.underlying129⟩
instance : TyA Tryd.prog 129 true := ⟨_, Tryd.underlying129, rfl⟩
instance : TyS Tryd.prog 129 32 := ⟨Ty.size129⟩
instance : BldI Tryd.prog 129 [(.int .u8 0), (.int .u8 0), (.int .u8 0), (.int .u8 0), (.int .u8 0), (.int .u8 0), (.int .u8 0), (.int .u8 0), (.int .u8 0), (.int .u8 0), (.int .u8 0), (.int .u8 0), (.int .u8 0), (.int .u8 0), (.int .u8 0), (.int .u8 0), (.int .u8 0), (.int .u8 0), (.int .u8 0), (.int .u8 0), (.int .u8 0), (.int .u8 0), (.int .u8 0), (.int .u8 0), (.int .u8 0), (.int .u8 0), (.int .u8 0), (.int .u8 0), (.int .u8 0), (.int .u8 0), (.int .u8 0), (.int .u8 0)] ((List.range 16).map fun j => (j * 2, 2)) := .array (za := #[(.int .u8 0), (.int .u8 0), (.int .u8 0), (.int .u8 0), (.int .u8 0), (.int .u8 0), (.int .u8 0), (.int .u8 0), (.int .u8 0), (.int .u8 0), (.int .u8 0), (.int .u8 0), (.int .u8 0), (.int .u8 0), (.int .u8 0), (.int .u8 0), (.int .u8 0), (.int .u8 0), (.int .u8 0), (.int .u8 0), (.int .u8 0), (.int .u8 0), (.int .u8 0), (.int .u8 0), (.int .u8 0), (.int .u8 0), (.int .u8 0), (.int .u8 0), (.int .u8 0), (.int .u8 0), (.int .u8 0), (.int .u8 0)]) Tryd.underlying129 Ty.zero129 (by kernel_rfl) Ty.size128 (by kernel_rfl)
instance : TyA Tryd.prog 135 true := ⟨_, Tryd.underlying135, rfl⟩
instance : TyS Tryd.prog 135 3 := ⟨Ty.size135⟩
instance : BldI Tryd.prog 135 [.str [], .str [], .nilifc] [(0, 1), (1, 1), (2, 1)] := .struct (za := #[(.string ⟨#[]⟩), (.string ⟨#[]⟩), .nilIface]) Tryd.underlying135 Ty.zero135 (by kernel_rfl) (by kernel_rfl) (by kernel_rfl) (by kernel_rfl)
instance : TyF Tryd.prog 135 0 9 0 1 false := ⟨_, _, _, Tryd.underlying135, rfl, rfl, rfl, Ty.size9, Tryd.underlying9, rfl⟩
instance : TyF Tryd.prog 135 1 9 1 1 false := ⟨_, _, _, Tryd.underlying135, rfl, rfl, rfl, Ty.size9, Tryd.underlying9, rfl⟩
instance : TyF Tryd.prog 135 2 55 2 1 false := ⟨_, _, _, Tryd.underlying135, rfl, rfl, rfl, Ty.size55, Tryd.underlying55, rfl⟩
instance : TyU Tryd.prog 137 (.array 32 5) := ⟨Tryd.underlying137⟩
instance : TyA Tryd.prog 137 true := ⟨_, Tryd.underlying137, rfl⟩
instance : TyS Tryd.prog 137 32 := ⟨Ty.size137⟩
instance : BldI Tryd.prog 137 [(.int .u8 0), (.int .u8 0), (.int .u8 0), (.int .u8 0), (.int .u8 0), (.int .u8 0), (.int .u8 0), (.int .u8 0), (.int .u8 0), (.int .u8 0), (.int .u8 0), (.int .u8 0), (.int .u8 0), (.int .u8 0), (.int .u8 0), (.int .u8 0), (.int .u8 0), (.int .u8 0), (.int .u8 0), (.int .u8 0), (.int .u8 0), (.int .u8 0), (.int .u8 0), (.int .u8 0), (.int .u8 0), (.int .u8 0), (.int .u8 0), (.int .u8 0), (.int .u8 0), (.int .u8 0), (.int .u8 0), (.int .u8 0)] ((List.range 32).map fun j => (j * 1, 1)) := .array (za := #[(.int .u8 0), (.int .u8 0), (.int .u8 0), (.int .u8 0), (.int .u8 0), (.int .u8 0), (.int .u8 0), (.int .u8 0), (.int .u8 0), (.int .u8 0), (.int .u8 0), (.int .u8 0), (.int .u8 0), (.int .u8 0), (.int .u8 0), (.int .u8 0), (.int .u8 0), (.int .u8 0), (.int .u8 0), (.int .u8 0), (.int .u8 0), (.int .u8 0), (.int .u8 0), (.int .u8 0), (.int .u8 0), (.int .u8 0), (.int .u8 0), (.int .u8 0), (.int .u8 0), (.int .u8 0), (.int .u8 0), (.int .u8 0)]) Tryd.underlying137 Ty.zero137 (by kernel_rfl) Ty.size5 (by kernel_rfl)
instance : TyU Tryd.prog 138 (.array 64 5) := ⟨Tryd.underlying138⟩
instance : TyA Tryd.prog 138 true := ⟨_, Tryd.underlying138, rfl⟩
instance : TyS Tryd.prog 138 64 := ⟨Ty.size138⟩
instance : BldI Tryd.prog 138 [(.int .u8 0), (.int .u8 0), (.int .u8 0), (.int .u8 0), (.int .u8 0), (.int .u8 0), (.int .u8 0), (.int .u8 0), (.int .u8 0), (.int .u8 0), (.int .u8 0), (.int .u8 0), (.int .u8 0), (.int .u8 0), (.int .u8 0), (.int .u8 0), (.int .u8 0), (.int .u8 0), (.int .u8 0), (.int .u8 0), (.int .u8 0), (.int .u8 0), (.int .u8 0), (.int .u8 0), (.int .u8 0), (.int .u8 0), (.int .u8 0), (.int .u8 0), (.int .u8 0), (.int .u8 0), (.int .u8 0), (.int .u8 0), (.int .u8 0), (.int .u8 0), (.int .u8 0), (.int .u8 0), (.int .u8 0), (.int .u8 0), (.int .u8 0), (.int .u8 0), (.int .u8 0), (.int .u8 0), (.int .u8 0), (.int .u8 0), (.int .u8 0), (.int .u8 0), (.int .u8 0), (.int .u8 0), (.int .u8 0), (.int .u8 0), (.int .u8 0), (.int .u8 0), (.int .u8 0), (.int .u8 0), (.int .u8 0), (.int .u8 0), (.int .u8 0), (.int .u8 0), (.int .u8 0), (.int .u8 0), (.int .u8 0), (.int .u8 0), (.int .u8 0), (.int .u8 0)] ((List.range 64).map fun j => (j * 1, 1)) := .array (za := #[(.int .u8 0), (.int .u8 0), (.int .u8 0), (.int .u8 0), (.int .u8 0), (.int .u8 0), (.int .u8 0), (.int .u8 0), (.int .u8 0), (.int .u8 0), (.int .u8 0), (.int .u8 0), (.int .u8 0), (.int .u8 0), (.int .u8 0), (.int .u8 0), (.int .u8 0), (.int .u8 0), (.int .u8 0), (.int .u8 0), (.int .u8 0), (.int .u8 0), (.int .u8 0), (.int .u8 0), (.int .u8 0), (.int .u8 0), (.int .u8 0), (.int .u8 0), (.int .u8 0), (.int .u8 0), (.int .u8 0), (.int .u8 0), (.int .u8 0), (.int .u8 0), (.int .u8 0), (.int .u8 0), (.int .u8 0), (.int .u8 0), (.int .u8 0), (.int .u8 0), (.int .u8 0), (.int .u8 0), (.int .u8 0), (.int .u8 0), (.int .u8 0), (.int .u8 0), (.int .u8 0), (.int .u8 0), (.int .u8 0), (.int .u8 0), (.int .u8 0), (.int .u8 0), (.int .u8 0), (.int .u8 0), (.int .u8 0), (.int .u8 0), (.int .u8 0), (.int .u8 0), (.int .u8 0), (.int .u8 0), (.int .u8 0), (.int .u8 0), (.int .u8 0), (.int .u8 0)]) Tryd.underlying138 Ty.zero138 (by kernel_rfl) Ty.size5 (by kernel_rfl)
instance : TyU Tryd.prog 140 (.pointer 142) := ⟨Tryd.underlying140⟩
instance : TyA Tryd.prog 140 false := ⟨_, Tryd.underlying140, rfl⟩
instance : TyS Tryd.prog 140 1 := ⟨Ty.size140⟩
instance : TyA Tryd.prog 142 true := ⟨_, Tryd.underlying142, rfl⟩
instance : TyS Tryd.prog 142 1 := ⟨Ty.size142⟩
instance : BldI Tryd.prog 142 [.str []] [(0, 1)] := .struct (za := #[(.string ⟨#[]⟩)]) Tryd.underlying142 Ty.zero142 (by kernel_rfl) (by kernel_rfl) (by kernel_rfl) (by kernel_rfl)
instance : TyF Tryd.prog 142 0 9 0 1 false := ⟨_, _, _, Tryd.underlying142, rfl, rfl, rfl, Ty.size9, Tryd.underlying9, rfl⟩
instance : AppI Tryd.prog 39 39 10 136 := .of (z := (.agg #[(.int .i64 0), (.int .i64 0), (.int .i64 0), (.int .i64 0), (.string ⟨#[]⟩), (.string ⟨#[]⟩), (.string ⟨#[]⟩), (.string ⟨#[]⟩), (.string ⟨#[]⟩), (.slice none 0 0)])) Tryd.underlying39 (.inr ⟨_, Tryd.underlying39⟩) Ty.size37 (by kernel_rfl) Ty.zero37 rfl (by decide)
instance : AppI Tryd.prog 26 26 1 1 := .of (z := (.int .u8 0)) Tryd.underlying26 (.inr ⟨_, Tryd.underlying26⟩) Ty.size5 (by kernel_rfl) Ty.zero5 rfl (by decide)
instance : AppI Tryd.prog 64 64 1 16 := .of (z := (.string ⟨#[]⟩)) Tryd.underlying64 (.inr ⟨_, Tryd.underlying64⟩) Ty.size9 (by kernel_rfl) Ty.zero9 rfl (by decide)
instance : AppI Tryd.prog 26 9 1 1 := .of (z := (.int .u8 0)) Tryd.underlying26 (.inl Tryd.underlying9) Ty.size5 (by kernel_rfl) Ty.zero5 rfl (by decide)
instance : OwnF Tryd.prog 2 := ⟨_, Tryd.func2, by kernel_rfl, by kernel_rfl⟩
instance : OwnF Tryd.prog 3 := ⟨_, Tryd.func3, by kernel_rfl, by kernel_rfl⟩
instance : OwnF Tryd.prog 4 := ⟨_, Tryd.func4, by kernel_rfl, by kernel_rfl⟩
instance : OwnF Tryd.prog 5 := ⟨_, Tryd.func5, by kernel_rfl, by kernel_rfl⟩
instance : OwnF Tryd.prog 6 := ⟨_, Tryd.func6, by kernel_rfl, by kernel_rfl⟩
instance : OwnF Tryd.prog 7 := ⟨_, Tryd.func7, by kernel_rfl, by kernel_rfl⟩
instance : OwnF Tryd.prog 8 := ⟨_, Tryd.func8, by kernel_rfl, by kernel_rfl⟩
instance : OwnF Tryd.prog 9 := ⟨_, Tryd.func9, by kernel_rfl, by kernel_rfl⟩
instance : OwnF Tryd.prog 10 := ⟨_, Tryd.func10, by kernel_rfl, by kernel_rfl⟩
instance : OwnF Tryd.prog 11 := ⟨_, Tryd.func11, by kernel_rfl, by kernel_rfl⟩
instance : OwnF Tryd.prog 12 := ⟨_, Tryd.func12, by kernel_rfl, by kernel_rfl⟩
instance : OwnF Tryd.prog 13 := ⟨_, Tryd.func13, by kernel_rfl, by kernel_rfl⟩
instance : OwnF Tryd.prog 14 := ⟨_, Tryd.func14, by kernel_rfl, by kernel_rfl⟩
instance : OwnF Tryd.prog 15 := ⟨_, Tryd.func15, by kernel_rfl, by kernel_rfl⟩
instance : OwnF Tryd.prog 16 := ⟨_, Tryd.func16, by kernel_rfl, by kernel_rfl⟩
instance : OwnF Tryd.prog 17 := ⟨_, Tryd.func17, by kernel_rfl, by kernel_rfl⟩
instance : OwnF Tryd.prog 18 := ⟨_, Tryd.func18, by kernel_rfl, by kernel_rfl⟩
instance : OwnF Tryd.prog 19 := ⟨_, Tryd.func19, by kernel_rfl, by kernel_rfl⟩
instance : OwnF Tryd.prog 20 := ⟨_, Tryd.func20, by kernel_rfl, by kernel_rfl⟩
instance : OwnF Tryd.prog 21 := ⟨_, Tryd.func21, by kernel_rfl, by kernel_rfl⟩
instance : OwnF Tryd.prog 22 := ⟨_, Tryd.func22, by kernel_rfl, by kernel_rfl⟩
instance : OwnF Tryd.prog 23 := ⟨_, Tryd.func23, by kernel_rfl, by kernel_rfl⟩
instance : OwnF Tryd.prog 24 := ⟨_, Tryd.func24, by kernel_rfl, by kernel_rfl⟩
instance : OwnF Tryd.prog 25 := ⟨_, Tryd.func25, by kernel_rfl, by kernel_rfl⟩
instance : OwnF Tryd.prog 26 := ⟨_, Tryd.func26, by kernel_rfl, by kernel_rfl⟩
instance : OwnF Tryd.prog 27 := ⟨_, Tryd.func27, by kernel_rfl, by kernel_rfl⟩
instance : OwnF Tryd.prog 28 := ⟨_, Tryd.func28, by kernel_rfl, by kernel_rfl⟩
instance : OwnF Tryd.prog 29 := ⟨_, Tryd.func29, by kernel_rfl, by kernel_rfl⟩
instance : OwnF Tryd.prog 30 := ⟨_, Tryd.func30, by kernel_rfl, by kernel_rfl⟩
instance : OwnF Tryd.prog 31 := ⟨_, Tryd.func31, by kernel_rfl, by kernel_rfl⟩
instance : OwnF Tryd.prog 32 := ⟨_, Tryd.func32, by kernel_rfl, by kernel_rfl⟩
instance : OwnF Tryd.prog 33 := ⟨_, Tryd.func33, by kernel_rfl, by kernel_rfl⟩
instance : OwnF Tryd.prog 34 := ⟨_, Tryd.func34, by kernel_rfl, by kernel_rfl⟩
instance : OwnF Tryd.prog 35 := ⟨_, Tryd.func35, by kernel_rfl, by kernel_rfl⟩
instance : OwnF Tryd.prog 36 := ⟨_, Tryd.func36, by kernel_rfl, by kernel_rfl⟩
instance : OwnF Tryd.prog 37 := ⟨_, Tryd.func37, by kernel_rfl, by kernel_rfl⟩
instance : OwnF Tryd.prog 38 := ⟨_, Tryd.func38, by kernel_rfl, by kernel_rfl⟩
instance : OwnF Tryd.prog 39 := ⟨_, Tryd.func39, by kernel_rfl, by kernel_rfl⟩
instance : OwnF Tryd.prog 40 := ⟨_, Tryd.func40, by kernel_rfl, by kernel_rfl⟩
instance : OwnF Tryd.prog 41 := ⟨_, Tryd.func41, by kernel_rfl, by kernel_rfl⟩
instance : OwnF Tryd.prog 42 := ⟨_, Tryd.func42, by kernel_rfl, by kernel_rfl⟩
instance : OwnF Tryd.prog 43 := ⟨_, Tryd.func43, by kernel_rfl, by kernel_rfl⟩
instance : OwnF Tryd.prog 44 := ⟨_, Tryd.func44, by kernel_rfl, by kernel_rfl⟩
instance : OwnF Tryd.prog 45 := ⟨_, Tryd.func45, by kernel_rfl, by kernel_rfl⟩
instance : OwnF Tryd.prog 46 := ⟨_, Tryd.func46, by kernel_rfl, by kernel_rfl⟩
instance : OwnF Tryd.prog 47 := ⟨_, Tryd.func47, by kernel_rfl, by kernel_rfl⟩
instance : OwnF Tryd.prog 48 := ⟨_, Tryd.func48, by kernel_rfl, by kernel_rfl⟩
instance : OwnF Tryd.prog 49 := ⟨_, Tryd.func49, by kernel_rfl, by kernel_rfl⟩
instance : OwnF Tryd.prog 50 := ⟨_, Tryd.func50, by kernel_rfl, by kernel_rfl⟩
instance : OwnF Tryd.prog 51 := ⟨_, Tryd.func51, by kernel_rfl, by kernel_rfl⟩
instance : OwnF Tryd.prog 53 := ⟨_, Tryd.func53, by kernel_rfl, by kernel_rfl⟩
instance : OwnF Tryd.prog 54 := ⟨_, Tryd.func54, by kernel_rfl, by kernel_rfl⟩
instance : OwnF Tryd.prog 55 := ⟨_, Tryd.func55, by kernel_rfl, by kernel_rfl⟩
instance : OwnF Tryd.prog 57 := ⟨_, Tryd.func57, by kernel_rfl, by kernel_rfl⟩
instance : OwnF Tryd.prog 58 := ⟨_, Tryd.func58, by kernel_rfl, by kernel_rfl⟩
instance : OwnF Tryd.prog 59 := ⟨_, Tryd.func59, by kernel_rfl, by kernel_rfl⟩
instance : OwnF Tryd.prog 60 := ⟨_, Tryd.func60, by kernel_rfl, by kernel_rfl⟩
instance : OwnF Tryd.prog 61 := ⟨_, Tryd.func61, by kernel_rfl, by kernel_rfl⟩
instance : OwnF Tryd.prog 62 := ⟨_, Tryd.func62, by kernel_rfl, by kernel_rfl⟩
instance : OwnF Tryd.prog 63 := ⟨_, Tryd.func63, by kernel_rfl, by kernel_rfl⟩
instance : OwnF Tryd.prog 64 := ⟨_, Tryd.func64, by kernel_rfl, by kernel_rfl⟩
instance : OwnF Tryd.prog 65 := ⟨_, Tryd.func65, by kernel_rfl, by kernel_rfl⟩
instance : OwnF Tryd.prog 67 := ⟨_, Tryd.func67, by kernel_rfl, by kernel_rfl⟩
instance : OwnF Tryd.prog 68 := ⟨_, Tryd.func68, by kernel_rfl, by kernel_rfl⟩
instance : OwnF Tryd.prog 70 := ⟨_, Tryd.func70, by kernel_rfl, by kernel_rfl⟩
instance : OwnF Tryd.prog 71 := ⟨_, Tryd.func71, by kernel_rfl, by kernel_rfl⟩
instance : OwnF Tryd.prog 72 := ⟨_, Tryd.func72, by kernel_rfl, by kernel_rfl⟩
instance : OwnF Tryd.prog 73 := ⟨_, Tryd.func73, by kernel_rfl, by kernel_rfl⟩
instance : OwnF Tryd.prog 74 := ⟨_, Tryd.func74, by kernel_rfl, by kernel_rfl⟩
instance : OwnF Tryd.prog 75 := ⟨_, Tryd.func75, by kernel_rfl, by kernel_rfl⟩
instance : OwnF Tryd.prog 76 := ⟨_, Tryd.func76, by kernel_rfl, by kernel_rfl⟩
instance : OwnF Tryd.prog 77 := ⟨_, Tryd.func77, by kernel_rfl, by kernel_rfl⟩
instance : OwnF Tryd.prog 78 := ⟨_, Tryd.func78, by kernel_rfl, by kernel_rfl⟩
instance : OwnF Tryd.prog 80 := ⟨_, Tryd.func80, by kernel_rfl, by kernel_rfl⟩
instance : OwnF Tryd.prog 81 := ⟨_, Tryd.func81, by kernel_rfl, by kernel_rfl⟩
instance : OwnF Tryd.prog 82 := ⟨_, Tryd.func82, by kernel_rfl, by kernel_rfl⟩
instance : OwnF Tryd.prog 83 := ⟨_, Tryd.func83, by kernel_rfl, by kernel_rfl⟩
instance : OwnF Tryd.prog 84 := ⟨_, Tryd.func84, by kernel_rfl, by kernel_rfl⟩
instance : OwnF Tryd.prog 85 := ⟨_, Tryd.func85, by kernel_rfl, by kernel_rfl⟩
instance : OwnF Tryd.prog 86 := ⟨_, Tryd.func86, by kernel_rfl, by kernel_rfl⟩
instance : OwnF Tryd.prog 87 := ⟨_, Tryd.func87, by kernel_rfl, by kernel_rfl⟩
instance : OwnF Tryd.prog 88 := ⟨_, Tryd.func88, by kernel_rfl, by kernel_rfl⟩
instance : OwnF Tryd.prog 89 := ⟨_, Tryd.func89, by kernel_rfl, by kernel_rfl⟩
instance : OwnF Tryd.prog 90 := ⟨_, Tryd.func90, by kernel_rfl, by kernel_rfl⟩
instance : OwnF Tryd.prog 91 := ⟨_, Tryd.func91, by kernel_rfl, by kernel_rfl⟩
instance : OwnF Tryd.prog 92 := ⟨_, Tryd.func92, by kernel_rfl, by kernel_rfl⟩
instance : OwnF Tryd.prog 93 := ⟨_, Tryd.func93, by kernel_rfl, by kernel_rfl⟩
instance : OwnF Tryd.prog 94 := ⟨_, Tryd.func94, by kernel_rfl, by kernel_rfl⟩
instance : OwnF Tryd.prog 125 := ⟨_, Tryd.func125, by kernel_rfl, by kernel_rfl⟩
end Go.Proofs.YtjcikceophcooaaDoor.Ty
end
section
set_option linter.unusedVariables false
set_option linter.unusedSimpArgs false
set_option maxRecDepth 100000
set_option maxHeartbeats 400000
namespace Go.Proofs.YtjcikceophcooaaDoor
open Go.Al Go.RowKit
def numB (n : Nat) : List UInt8 := if n < 128 then [UInt8.ofNat n] else UInt8.ofNat (128 + n % 128) :: numB (n / 128)
termination_by n
def clampN (n : Int) : Nat := (max 0 (min n 9007199254740992)).toNat
def num (n : Int) : List UInt8 := numB (clampN n)
def txt (s : List UInt8) : List UInt8 := num s.length ++ s
end Go.Proofs.YtjcikceophcooaaDoor
end
section
set_option linter.unusedVariables false
set_option linter.unusedSimpArgs false
set_option maxRecDepth 100000
set_option maxHeartbeats 400000
namespace Go.Proofs.YtjcikceophcooaaDoor
open Go.Al Go.RowKit
structure Laid (w : World) : Prop where
  tab : Lib.TabIs Tryd.prog w "internal/strconv.uint64pow10" .u64 Lib.pow10Tab
  syn : ∃ t p, w.cell? ⟨4, 0, none⟩ = some (.iface t p)
  rng : ∃ t p, w.cell? ⟨5, 0, none⟩ = some (.iface t p)
theorem laid_below {w0 w : World} (h : Laid w0) (hb : Below w0.heap.size w0 w) : Laid w :=
  ⟨Lib.tabBelow_of_tabIs h.tab w hb, h.syn.imp fun _ h => h.imp fun _ h => cell_below hb (Nat.le_refl _) h, h.rng.imp fun _ h => h.imp fun _ h => cell_below hb (Nat.le_refl _) h⟩
instance : OwnF Tryd.prog 29 := ⟨_, Tryd.func29, by kernel_rfl, by kernel_rfl⟩
instance : OwnF Tryd.prog 61 := ⟨_, Tryd.func61, by kernel_rfl, by kernel_rfl⟩
theorem itoa_any (w0 : Base) (hL : Laid w0) (n : Int) (h0 : -9223372036854775808 ≤ n) (h1 : n ≤ 9223372036854775807) : CallP Tryd.prog w0 29 [.int .i64 n] (.str (Lib.itoa n)) := .told fun G w vs hb hr => by
  cases hr with
  | cons h t =>
    cases t
    cases h
    exact ⟨_, fun w' => .str _, (Tryd.strconv_Itoa n h0 h1 w (laid_below hL hb).tab).mono fun e w' ⟨he, k, os, hw⟩ => ⟨he, hw ▸ Lib.below_grow _ w (Nat.le_refl _) k os⟩⟩
def goAtoi (l : List UInt8) : Int × Bool := match Lib.atoiAll l with
  | .ok v => (v, true)
  | .range => (Lib.atoiSat l, false)
  | _ => (0, false)
def eErr : Bool → AV
  | true => .nilifc
  | false => .ifc 122 .und
theorem bytesWorld_le (w : World) (t : TypeId) (s : ByteArray) (w' : World) (h : w' = w ∨ ∃ u, w' = Lib.bytesWorld w t u) : Below w.heap.size w w' := by
  rcases h with rfl | ⟨u, rfl⟩
  · exact .refl _ _
  · exact Lib.bytesWorld_below w _ _
theorem goAtoi_any (w0 : Base) (hL : Laid w0) (s : List UInt8) (hs : s.length ≤ 1000000000000) : CallP Tryd.prog w0 61 [.str s] (.tup [.int .i64 (goAtoi s).1, eErr (goAtoi s).2]) := .tells fun G w vs hb hr => by
  cases hr with
  | cons h1 t =>
    cases t
    cases h1
    have hL' := laid_below hL hb
    have hsz : (⟨s.toArray⟩ : ByteArray).size = s.length := by simp [ByteArray.size]
    have hl : (⟨s.toArray⟩ : ByteArray).data.toList = s := by simp
    unfold goAtoi
    rcases h : Lib.atoiAll s with v | _ | _
    · refine (Tryd.strconv_Atoi_ok ⟨s.toArray⟩ (by omega) v (by rw [hl]; exact h) w).mono fun e w' ⟨he, hw⟩ => ⟨_, he, .tup (.cons (.int _ _) (.cons .nilifc .nil)), bytesWorld_le w _ ⟨s.toArray⟩ w' hw⟩
    · obtain ⟨ti, p, hc⟩ := hL'.syn
      refine (Any.strconv_Atoi_syntax Tryd.laysC172 ⟨s.toArray⟩ (by omega) (by rw [hl]; exact h) _ w hc (.inr ⟨ti, p, rfl⟩)).mono fun e w' ⟨m, he, _, _, hw⟩ => ⟨_, he, .tup (.cons (.int _ _) (.cons (.ifc (.und _)) .nil)), hw⟩
    · obtain ⟨ti, p, hc⟩ := hL'.rng
      refine (Tryd.strconv_Atoi_range ⟨s.toArray⟩ (by omega) (by rw [hl]; exact h) _ w hc (.inr ⟨ti, p, rfl⟩)).mono fun e w' ⟨m, he, _, _, hw⟩ => ⟨_, he, ?_, hw⟩
      rw [hl]
      exact .tup (.cons (.int _ _) (.cons (.ifc (.und _)) .nil))
theorem goAtoi_ok {s : List UInt8} {n : Int} (hs : s.length ≤ 18) (h : Lib.atoi s = some n) : goAtoi s = (n, true) := by
  rw [goAtoi, Lib.atoiAll_short s hs, h]; rfl
end Go.Proofs.YtjcikceophcooaaDoor
end
section
set_option linter.unusedVariables false
set_option maxRecDepth 100000
namespace Go.Proofs.YtjcikceophcooaaDoor.Ty
open Go.Al
theorem ti2 : TI.ok Tryd.prog 2 ⟨.int .i64, 1⟩ := ⟨⟨Tryd.underlying2⟩, ⟨⟨Ty.size2⟩, by kernel_rfl⟩⟩
theorem ti3 : TI.ok Tryd.prog 3 ⟨.int .i64, 1⟩ := ⟨⟨Tryd.underlying3⟩, ⟨⟨Ty.size3⟩, by kernel_rfl⟩⟩
theorem ti4 : TI.ok Tryd.prog 4 ⟨.bool, 1⟩ := ⟨⟨Tryd.underlying4⟩, ⟨⟨Ty.size4⟩, by kernel_rfl⟩⟩
theorem ti5 : TI.ok Tryd.prog 5 ⟨.int .u8, 1⟩ := ⟨⟨Tryd.underlying5⟩, ⟨⟨Ty.size5⟩, by kernel_rfl⟩⟩
theorem ti9 : TI.ok Tryd.prog 9 ⟨.str, 1⟩ := ⟨⟨Tryd.underlying9⟩, ⟨⟨Ty.size9⟩, by kernel_rfl⟩⟩
theorem ti20 : TI.ok Tryd.prog 20 ⟨.ifc, 1⟩ := ⟨⟨_, Tryd.underlying20⟩, ⟨⟨Ty.size20⟩, by kernel_rfl⟩⟩
theorem ti21 : TI.ok Tryd.prog 21 ⟨.int .i32, 1⟩ := ⟨⟨Tryd.underlying21⟩, ⟨⟨Ty.size21⟩, by kernel_rfl⟩⟩
theorem ti22 : TI.ok Tryd.prog 22 ⟨.int .u16, 1⟩ := ⟨⟨Tryd.underlying22⟩, ⟨⟨Ty.size22⟩, by kernel_rfl⟩⟩
theorem ti26 : TI.ok Tryd.prog 26 ⟨.slc 5 1 true, 1⟩ := ⟨⟨⟨Tryd.underlying26⟩, ⟨⟨Ty.size26⟩, by kernel_rfl⟩⟩, ⟨Ty.size5⟩, (fun _ => ⟨Tryd.underlying5⟩), inferInstance⟩
theorem ti28 : TI.ok Tryd.prog 28 ⟨.int .u16, 1⟩ := ⟨⟨Tryd.underlying28⟩, ⟨⟨Ty.size28⟩, by kernel_rfl⟩⟩
theorem ti29 : TI.ok Tryd.prog 29 ⟨.slc 33 8 false, 1⟩ := ⟨⟨⟨Tryd.underlying29⟩, ⟨⟨Ty.size29⟩, by kernel_rfl⟩⟩, ⟨Ty.size33⟩, (fun h => Bool.noConfusion h), inferInstance⟩
theorem ti31 : TI.ok Tryd.prog 31 ⟨.struct [(0, 1, false), (1, 1, false), (2, 1, false), (3, 1, false)] [(.int .u16 0), (.int .i64 0), .nils, .nils], 4⟩ := ⟨⟨⟨_, Tryd.underlying31, rfl⟩, ⟨Ty.size31⟩⟩, ⟨⟨28, inferInstanceAs (TyF Tryd.prog 31 0 28 0 1 false)⟩, ⟨⟨3, inferInstanceAs (TyF Tryd.prog 31 1 3 1 1 false)⟩, ⟨⟨29, inferInstanceAs (TyF Tryd.prog 31 2 29 2 1 false)⟩, ⟨⟨26, inferInstanceAs (TyF Tryd.prog 31 3 26 3 1 false)⟩, trivial⟩⟩⟩⟩, by kernel_rfl, .struct Tryd.underlying31 Ty.zero31 rfl rfl rfl rfl⟩
theorem ti33 : TI.ok Tryd.prog 33 ⟨.struct [(0, 1, false), (1, 1, false), (2, 1, false), (3, 1, false), (4, 1, false), (5, 1, false), (6, 1, false), (7, 1, false)] [(.int .i64 0), .str [], .str [], (.int .i64 0), (.int .i64 0), (.bool false), .str [], (.int .i64 0)], 8⟩ := ⟨⟨⟨_, Tryd.underlying33, rfl⟩, ⟨Ty.size33⟩⟩, ⟨⟨3, inferInstanceAs (TyF Tryd.prog 33 0 3 0 1 false)⟩, ⟨⟨9, inferInstanceAs (TyF Tryd.prog 33 1 9 1 1 false)⟩, ⟨⟨9, inferInstanceAs (TyF Tryd.prog 33 2 9 2 1 false)⟩, ⟨⟨3, inferInstanceAs (TyF Tryd.prog 33 3 3 3 1 false)⟩, ⟨⟨3, inferInstanceAs (TyF Tryd.prog 33 4 3 4 1 false)⟩, ⟨⟨4, inferInstanceAs (TyF Tryd.prog 33 5 4 5 1 false)⟩, ⟨⟨9, inferInstanceAs (TyF Tryd.prog 33 6 9 6 1 false)⟩, ⟨⟨3, inferInstanceAs (TyF Tryd.prog 33 7 3 7 1 false)⟩, trivial⟩⟩⟩⟩⟩⟩⟩⟩, by kernel_rfl, .struct Tryd.underlying33 Ty.zero33 rfl rfl rfl rfl⟩
theorem ti37 : TI.ok Tryd.prog 37 ⟨.struct [(0, 1, false), (1, 1, false), (2, 1, false), (3, 1, false), (4, 1, false), (5, 1, false), (6, 1, false), (7, 1, false), (8, 1, false), (9, 1, false)] [(.int .i64 0), (.int .i64 0), (.int .i64 0), (.int .i64 0), .str [], .str [], .str [], .str [], .str [], .nils], 10⟩ := ⟨⟨⟨_, Tryd.underlying37, rfl⟩, ⟨Ty.size37⟩⟩, ⟨⟨3, inferInstanceAs (TyF Tryd.prog 37 0 3 0 1 false)⟩, ⟨⟨3, inferInstanceAs (TyF Tryd.prog 37 1 3 1 1 false)⟩, ⟨⟨3, inferInstanceAs (TyF Tryd.prog 37 2 3 2 1 false)⟩, ⟨⟨3, inferInstanceAs (TyF Tryd.prog 37 3 3 3 1 false)⟩, ⟨⟨9, inferInstanceAs (TyF Tryd.prog 37 4 9 4 1 false)⟩, ⟨⟨9, inferInstanceAs (TyF Tryd.prog 37 5 9 5 1 false)⟩, ⟨⟨9, inferInstanceAs (TyF Tryd.prog 37 6 9 6 1 false)⟩, ⟨⟨9, inferInstanceAs (TyF Tryd.prog 37 7 9 7 1 false)⟩, ⟨⟨9, inferInstanceAs (TyF Tryd.prog 37 8 9 8 1 false)⟩, ⟨⟨26, inferInstanceAs (TyF Tryd.prog 37 9 26 9 1 false)⟩, trivial⟩⟩⟩⟩⟩⟩⟩⟩⟩⟩, by kernel_rfl, .struct Tryd.underlying37 Ty.zero37 rfl rfl rfl rfl⟩
theorem ti39 : TI.ok Tryd.prog 39 ⟨.slc 37 10 false, 1⟩ := ⟨⟨⟨Tryd.underlying39⟩, ⟨⟨Ty.size39⟩, by kernel_rfl⟩⟩, ⟨Ty.size37⟩, (fun h => Bool.noConfusion h), inferInstance⟩
theorem ti50 : TI.ok Tryd.prog 50 ⟨.ptr, 1⟩ := ⟨⟨_, ⟨Tryd.underlying50⟩⟩, ⟨⟨Ty.size50⟩, by kernel_rfl⟩⟩
theorem ti52 : TI.ok Tryd.prog 52 ⟨.struct [(0, 1, false), (1, 1, false)] [.nilp, .nils], 2⟩ := ⟨⟨⟨_, Tryd.underlying52, rfl⟩, ⟨Ty.size52⟩⟩, ⟨⟨50, inferInstanceAs (TyF Tryd.prog 52 0 50 0 1 false)⟩, ⟨⟨26, inferInstanceAs (TyF Tryd.prog 52 1 26 1 1 false)⟩, trivial⟩⟩, by kernel_rfl, .struct Tryd.underlying52 Ty.zero52 rfl rfl rfl rfl⟩
theorem ti55 : TI.ok Tryd.prog 55 ⟨.ifc, 1⟩ := ⟨⟨_, Tryd.underlying55⟩, ⟨⟨Ty.size55⟩, by kernel_rfl⟩⟩
theorem ti62 : TI.ok Tryd.prog 62 ⟨.arr 4 3 1 false [(.int .i64 0), (.int .i64 0), (.int .i64 0), (.int .i64 0)], 4⟩ := ⟨⟨⟨Tryd.underlying62⟩, ⟨Ty.size62⟩⟩, ⟨Ty.size3⟩, ⟨_, Tryd.underlying3, rfl⟩, by kernel_rfl, .array Tryd.underlying62 Ty.zero62 rfl Ty.size3 rfl⟩
theorem ti63 : TI.ok Tryd.prog 63 ⟨.slc 3 1 false, 1⟩ := ⟨⟨⟨Tryd.underlying63⟩, ⟨⟨Ty.size63⟩, by kernel_rfl⟩⟩, ⟨Ty.size3⟩, (fun h => Bool.noConfusion h), inferInstance⟩
theorem ti64 : TI.ok Tryd.prog 64 ⟨.slc 9 1 false, 1⟩ := ⟨⟨⟨Tryd.underlying64⟩, ⟨⟨Ty.size64⟩, by kernel_rfl⟩⟩, ⟨Ty.size9⟩, (fun h => Bool.noConfusion h), inferInstance⟩
theorem ti65 : TI.ok Tryd.prog 65 ⟨.slc 64 1 false, 1⟩ := ⟨⟨⟨Tryd.underlying65⟩, ⟨⟨Ty.size65⟩, by kernel_rfl⟩⟩, ⟨Ty.size64⟩, (fun h => Bool.noConfusion h), inferInstance⟩
theorem ti71 : TI.ok Tryd.prog 71 ⟨.int .u64, 1⟩ := ⟨⟨Tryd.underlying71⟩, ⟨⟨Ty.size71⟩, by kernel_rfl⟩⟩
theorem ti72 : TI.ok Tryd.prog 72 ⟨.slc 75 2 false, 1⟩ := ⟨⟨⟨Tryd.underlying72⟩, ⟨⟨Ty.size72⟩, by kernel_rfl⟩⟩, ⟨Ty.size75⟩, (fun h => Bool.noConfusion h), inferInstance⟩
theorem ti75 : TI.ok Tryd.prog 75 ⟨.struct [(0, 1, false), (1, 1, false)] [.str [], .nils], 2⟩ := ⟨⟨⟨_, Tryd.underlying75, rfl⟩, ⟨Ty.size75⟩⟩, ⟨⟨9, inferInstanceAs (TyF Tryd.prog 75 0 9 0 1 false)⟩, ⟨⟨63, inferInstanceAs (TyF Tryd.prog 75 1 63 1 1 false)⟩, trivial⟩⟩, by kernel_rfl, .struct Tryd.underlying75 Ty.zero75 rfl rfl rfl rfl⟩
theorem ti78 : TI.ok Tryd.prog 78 ⟨.ptr, 1⟩ := ⟨⟨_, ⟨Tryd.underlying78⟩⟩, ⟨⟨Ty.size78⟩, by kernel_rfl⟩⟩
theorem ti82 : TI.ok Tryd.prog 82 ⟨.ptr, 1⟩ := ⟨⟨_, ⟨Tryd.underlying82⟩⟩, ⟨⟨Ty.size82⟩, by kernel_rfl⟩⟩
theorem ti87 : TI.ok Tryd.prog 87 ⟨.ptr, 1⟩ := ⟨⟨_, ⟨Tryd.underlying87⟩⟩, ⟨⟨Ty.size87⟩, by kernel_rfl⟩⟩
theorem ti88 : TI.ok Tryd.prog 88 ⟨.ptr, 1⟩ := ⟨⟨_, ⟨Tryd.underlying88⟩⟩, ⟨⟨Ty.size88⟩, by kernel_rfl⟩⟩
theorem ti89 : TI.ok Tryd.prog 89 ⟨.ptr, 1⟩ := ⟨⟨_, ⟨Tryd.underlying89⟩⟩, ⟨⟨Ty.size89⟩, by kernel_rfl⟩⟩
theorem ti90 : TI.ok Tryd.prog 90 ⟨.arr 9 20 1 false [.nilifc, .nilifc, .nilifc, .nilifc, .nilifc, .nilifc, .nilifc, .nilifc, .nilifc], 9⟩ := ⟨⟨⟨Tryd.underlying90⟩, ⟨Ty.size90⟩⟩, ⟨Ty.size20⟩, ⟨_, Tryd.underlying20, rfl⟩, by kernel_rfl, .array Tryd.underlying90 Ty.zero90 rfl Ty.size20 rfl⟩
theorem ti102 : TI.ok Tryd.prog 102 ⟨.arr 24 5 1 false [(.int .u8 0), (.int .u8 0), (.int .u8 0), (.int .u8 0), (.int .u8 0), (.int .u8 0), (.int .u8 0), (.int .u8 0), (.int .u8 0), (.int .u8 0), (.int .u8 0), (.int .u8 0), (.int .u8 0), (.int .u8 0), (.int .u8 0), (.int .u8 0), (.int .u8 0), (.int .u8 0), (.int .u8 0), (.int .u8 0), (.int .u8 0), (.int .u8 0), (.int .u8 0), (.int .u8 0)], 24⟩ := ⟨⟨⟨Tryd.underlying102⟩, ⟨Ty.size102⟩⟩, ⟨Ty.size5⟩, ⟨_, Tryd.underlying5, rfl⟩, by kernel_rfl, .array Tryd.underlying102 Ty.zero102 rfl Ty.size5 rfl⟩
theorem ti103 : TI.ok Tryd.prog 103 ⟨.int .u64, 1⟩ := ⟨⟨Tryd.underlying103⟩, ⟨⟨Ty.size103⟩, by kernel_rfl⟩⟩
theorem ti115 : TI.ok Tryd.prog 115 ⟨.arr 20 103 1 false [(.int .u64 0), (.int .u64 0), (.int .u64 0), (.int .u64 0), (.int .u64 0), (.int .u64 0), (.int .u64 0), (.int .u64 0), (.int .u64 0), (.int .u64 0), (.int .u64 0), (.int .u64 0), (.int .u64 0), (.int .u64 0), (.int .u64 0), (.int .u64 0), (.int .u64 0), (.int .u64 0), (.int .u64 0), (.int .u64 0)], 20⟩ := ⟨⟨⟨Tryd.underlying115⟩, ⟨Ty.size115⟩⟩, ⟨Ty.size103⟩, ⟨_, Tryd.underlying103, rfl⟩, by kernel_rfl, .array Tryd.underlying115 Ty.zero115 rfl Ty.size103 rfl⟩
theorem ti116 : TI.ok Tryd.prog 116 ⟨.int .u32, 1⟩ := ⟨⟨Tryd.underlying116⟩, ⟨⟨Ty.size116⟩, by kernel_rfl⟩⟩
theorem ti117 : TI.ok Tryd.prog 117 ⟨.arr 65 5 1 false [(.int .u8 0), (.int .u8 0), (.int .u8 0), (.int .u8 0), (.int .u8 0), (.int .u8 0), (.int .u8 0), (.int .u8 0), (.int .u8 0), (.int .u8 0), (.int .u8 0), (.int .u8 0), (.int .u8 0), (.int .u8 0), (.int .u8 0), (.int .u8 0), (.int .u8 0), (.int .u8 0), (.int .u8 0), (.int .u8 0), (.int .u8 0), (.int .u8 0), (.int .u8 0), (.int .u8 0), (.int .u8 0), (.int .u8 0), (.int .u8 0), (.int .u8 0), (.int .u8 0), (.int .u8 0), (.int .u8 0), (.int .u8 0), (.int .u8 0), (.int .u8 0), (.int .u8 0), (.int .u8 0), (.int .u8 0), (.int .u8 0), (.int .u8 0), (.int .u8 0), (.int .u8 0), (.int .u8 0), (.int .u8 0), (.int .u8 0), (.int .u8 0), (.int .u8 0), (.int .u8 0), (.int .u8 0), (.int .u8 0), (.int .u8 0), (.int .u8 0), (.int .u8 0), (.int .u8 0), (.int .u8 0), (.int .u8 0), (.int .u8 0), (.int .u8 0), (.int .u8 0), (.int .u8 0), (.int .u8 0), (.int .u8 0), (.int .u8 0), (.int .u8 0), (.int .u8 0), (.int .u8 0)], 65⟩ := ⟨⟨⟨Tryd.underlying117⟩, ⟨Ty.size117⟩⟩, ⟨Ty.size5⟩, ⟨_, Tryd.underlying5, rfl⟩, by kernel_rfl, .array Tryd.underlying117 Ty.zero117 rfl Ty.size5 rfl⟩
theorem ti119 : TI.ok Tryd.prog 119 ⟨.int .i64, 1⟩ := ⟨⟨Tryd.underlying119⟩, ⟨⟨Ty.size119⟩, by kernel_rfl⟩⟩
theorem ti122 : TI.ok Tryd.prog 122 ⟨.ptr, 1⟩ := ⟨⟨_, ⟨Tryd.underlying122⟩⟩, ⟨⟨Ty.size122⟩, by kernel_rfl⟩⟩
theorem ti126 : TI.ok Tryd.prog 126 ⟨.arr 256 5 1 false [(.int .u8 0), (.int .u8 0), (.int .u8 0), (.int .u8 0), (.int .u8 0), (.int .u8 0), (.int .u8 0), (.int .u8 0), (.int .u8 0), (.int .u8 0), (.int .u8 0), (.int .u8 0), (.int .u8 0), (.int .u8 0), (.int .u8 0), (.int .u8 0), (.int .u8 0), (.int .u8 0), (.int .u8 0), (.int .u8 0), (.int .u8 0), (.int .u8 0), (.int .u8 0), (.int .u8 0), (.int .u8 0), (.int .u8 0), (.int .u8 0), (.int .u8 0), (.int .u8 0), (.int .u8 0), (.int .u8 0), (.int .u8 0), (.int .u8 0), (.int .u8 0), (.int .u8 0), (.int .u8 0), (.int .u8 0), (.int .u8 0), (.int .u8 0), (.int .u8 0), (.int .u8 0), (.int .u8 0), (.int .u8 0), (.int .u8 0), (.int .u8 0), (.int .u8 0), (.int .u8 0), (.int .u8 0), (.int .u8 0), (.int .u8 0), (.int .u8 0), (.int .u8 0), (.int .u8 0), (.int .u8 0), (.int .u8 0), (.int .u8 0), (.int .u8 0), (.int .u8 0), (.int .u8 0), (.int .u8 0), (.int .u8 0), (.int .u8 0), (.int .u8 0), (.int .u8 0), (.int .u8 0), (.int .u8 0), (.int .u8 0), (.int .u8 0), (.int .u8 0), (.int .u8 0), (.int .u8 0), (.int .u8 0), (.int .u8 0), (.int .u8 0), (.int .u8 0), (.int .u8 0), (.int .u8 0), (.int .u8 0), (.int .u8 0), (.int .u8 0), (.int .u8 0), (.int .u8 0), (.int .u8 0), (.int .u8 0), (.int .u8 0), (.int .u8 0), (.int .u8 0), (.int .u8 0), (.int .u8 0), (.int .u8 0), (.int .u8 0), (.int .u8 0), (.int .u8 0), (.int .u8 0), (.int .u8 0), (.int .u8 0), (.int .u8 0), (.int .u8 0), (.int .u8 0), (.int .u8 0), (.int .u8 0), (.int .u8 0), (.int .u8 0), (.int .u8 0), (.int .u8 0), (.int .u8 0), (.int .u8 0), (.int .u8 0), (.int .u8 0), (.int .u8 0), (.int .u8 0), (.int .u8 0), (.int .u8 0), (.int .u8 0), (.int .u8 0), (.int .u8 0), (.int .u8 0), (.int .u8 0), (.int .u8 0), (.int .u8 0), (.int .u8 0), (.int .u8 0), (.int .u8 0), (.int .u8 0), (.int .u8 0), (.int .u8 0), (.int .u8 0), (.int .u8 0), (.int .u8 0), (.int .u8 0), (.int .u8 0), (.int .u8 0), (.int .u8 0), (.int .u8 0), (.int .u8 0), (.int .u8 0), (.int .u8 0), (.int .u8 0), (.int .u8 0), (.int .u8 0), (.int .u8 0), (.int .u8 0), (.int .u8 0), (.int .u8 0), (.int .u8 0), (.int .u8 0), (.int .u8 0), (.int .u8 0), (.int .u8 0), (.int .u8 0), (.int .u8 0), (.int .u8 0), (.int .u8 0), (.int .u8 0), (.int .u8 0), (.int .u8 0), (.int .u8 0), (.int .u8 0), (.int .u8 0), (.int .u8 0), (.int .u8 0), (.int .u8 0), (.int .u8 0), (.int .u8 0), (.int .u8 0), (.int .u8 0), (.int .u8 0), (.int .u8 0), (.int .u8 0), (.int .u8 0), (.int .u8 0), (.int .u8 0), (.int .u8 0), (.int .u8 0), (.int .u8 0), (.int .u8 0), (.int .u8 0), (.int .u8 0), (.int .u8 0), (.int .u8 0), (.int .u8 0), (.int .u8 0), (.int .u8 0), (.int .u8 0), (.int .u8 0), (.int .u8 0), (.int .u8 0), (.int .u8 0), (.int .u8 0), (.int .u8 0), (.int .u8 0), (.int .u8 0), (.int .u8 0), (.int .u8 0), (.int .u8 0), (.int .u8 0), (.int .u8 0), (.int .u8 0), (.int .u8 0), (.int .u8 0), (.int .u8 0), (.int .u8 0), (.int .u8 0), (.int .u8 0), (.int .u8 0), (.int .u8 0), (.int .u8 0), (.int .u8 0), (.int .u8 0), (.int .u8 0), (.int .u8 0), (.int .u8 0), (.int .u8 0), (.int .u8 0), (.int .u8 0), (.int .u8 0), (.int .u8 0), (.int .u8 0), (.int .u8 0), (.int .u8 0), (.int .u8 0), (.int .u8 0), (.int .u8 0), (.int .u8 0), (.int .u8 0), (.int .u8 0), (.int .u8 0), (.int .u8 0), (.int .u8 0), (.int .u8 0), (.int .u8 0), (.int .u8 0), (.int .u8 0), (.int .u8 0), (.int .u8 0), (.int .u8 0), (.int .u8 0), (.int .u8 0), (.int .u8 0), (.int .u8 0), (.int .u8 0), (.int .u8 0), (.int .u8 0), (.int .u8 0), (.int .u8 0), (.int .u8 0), (.int .u8 0), (.int .u8 0), (.int .u8 0), (.int .u8 0), (.int .u8 0), (.int .u8 0), (.int .u8 0), (.int .u8 0), (.int .u8 0), (.int .u8 0)], 256⟩ := ⟨⟨⟨Tryd.underlying126⟩, ⟨Ty.size126⟩⟩, ⟨Ty.size5⟩, ⟨_, Tryd.underlying5, rfl⟩, by kernel_rfl, .array Tryd.underlying126 Ty.zero126 rfl Ty.size5 rfl⟩
theorem ti128 : TI.ok Tryd.prog 128 ⟨.struct [(0, 1, false), (1, 1, false)] [(.int .u8 0), (.int .u8 0)], 2⟩ := ⟨⟨⟨_, Tryd.underlying128, rfl⟩, ⟨Ty.size128⟩⟩, ⟨⟨5, inferInstanceAs (TyF Tryd.prog 128 0 5 0 1 false)⟩, ⟨⟨5, inferInstanceAs (TyF Tryd.prog 128 1 5 1 1 false)⟩, trivial⟩⟩, by kernel_rfl, .struct Tryd.underlying128 Ty.zero128 rfl rfl rfl rfl⟩
theorem ti129 : TI.ok Tryd.prog 129 ⟨.arr 16 128 2 true [(.int .u8 0), (.int .u8 0), (.int .u8 0), (.int .u8 0), (.int .u8 0), (.int .u8 0), (.int .u8 0), (.int .u8 0), (.int .u8 0), (.int .u8 0), (.int .u8 0), (.int .u8 0), (.int .u8 0), (.int .u8 0), (.int .u8 0), (.int .u8 0), (.int .u8 0), (.int .u8 0), (.int .u8 0), (.int .u8 0), (.int .u8 0), (.int .u8 0), (.int .u8 0), (.int .u8 0), (.int .u8 0), (.int .u8 0), (.int .u8 0), (.int .u8 0), (.int .u8 0), (.int .u8 0), (.int .u8 0), (.int .u8 0)], 32⟩ := ⟨⟨⟨Tryd.underlying129⟩, ⟨Ty.size129⟩⟩, ⟨Ty.size128⟩, ⟨_, Tryd.underlying128, rfl⟩, by kernel_rfl, .array Tryd.underlying129 Ty.zero129 rfl Ty.size128 rfl⟩
theorem ti135 : TI.ok Tryd.prog 135 ⟨.struct [(0, 1, false), (1, 1, false), (2, 1, false)] [.str [], .str [], .nilifc], 3⟩ := ⟨⟨⟨_, Tryd.underlying135, rfl⟩, ⟨Ty.size135⟩⟩, ⟨⟨9, inferInstanceAs (TyF Tryd.prog 135 0 9 0 1 false)⟩, ⟨⟨9, inferInstanceAs (TyF Tryd.prog 135 1 9 1 1 false)⟩, ⟨⟨55, inferInstanceAs (TyF Tryd.prog 135 2 55 2 1 false)⟩, trivial⟩⟩⟩, by kernel_rfl, .struct Tryd.underlying135 Ty.zero135 rfl rfl rfl rfl⟩
theorem ti137 : TI.ok Tryd.prog 137 ⟨.arr 32 5 1 false [(.int .u8 0), (.int .u8 0), (.int .u8 0), (.int .u8 0), (.int .u8 0), (.int .u8 0), (.int .u8 0), (.int .u8 0), (.int .u8 0), (.int .u8 0), (.int .u8 0), (.int .u8 0), (.int .u8 0), (.int .u8 0), (.int .u8 0), (.int .u8 0), (.int .u8 0), (.int .u8 0), (.int .u8 0), (.int .u8 0), (.int .u8 0), (.int .u8 0), (.int .u8 0), (.int .u8 0), (.int .u8 0), (.int .u8 0), (.int .u8 0), (.int .u8 0), (.int .u8 0), (.int .u8 0), (.int .u8 0), (.int .u8 0)], 32⟩ := ⟨⟨⟨Tryd.underlying137⟩, ⟨Ty.size137⟩⟩, ⟨Ty.size5⟩, ⟨_, Tryd.underlying5, rfl⟩, by kernel_rfl, .array Tryd.underlying137 Ty.zero137 rfl Ty.size5 rfl⟩
theorem ti138 : TI.ok Tryd.prog 138 ⟨.arr 64 5 1 false [(.int .u8 0), (.int .u8 0), (.int .u8 0), (.int .u8 0), (.int .u8 0), (.int .u8 0), (.int .u8 0), (.int .u8 0), (.int .u8 0), (.int .u8 0), (.int .u8 0), (.int .u8 0), (.int .u8 0), (.int .u8 0), (.int .u8 0), (.int .u8 0), (.int .u8 0), (.int .u8 0), (.int .u8 0), (.int .u8 0), (.int .u8 0), (.int .u8 0), (.int .u8 0), (.int .u8 0), (.int .u8 0), (.int .u8 0), (.int .u8 0), (.int .u8 0), (.int .u8 0), (.int .u8 0), (.int .u8 0), (.int .u8 0), (.int .u8 0), (.int .u8 0), (.int .u8 0), (.int .u8 0), (.int .u8 0), (.int .u8 0), (.int .u8 0), (.int .u8 0), (.int .u8 0), (.int .u8 0), (.int .u8 0), (.int .u8 0), (.int .u8 0), (.int .u8 0), (.int .u8 0), (.int .u8 0), (.int .u8 0), (.int .u8 0), (.int .u8 0), (.int .u8 0), (.int .u8 0), (.int .u8 0), (.int .u8 0), (.int .u8 0), (.int .u8 0), (.int .u8 0), (.int .u8 0), (.int .u8 0), (.int .u8 0), (.int .u8 0), (.int .u8 0), (.int .u8 0)], 64⟩ := ⟨⟨⟨Tryd.underlying138⟩, ⟨Ty.size138⟩⟩, ⟨Ty.size5⟩, ⟨_, Tryd.underlying5, rfl⟩, by kernel_rfl, .array Tryd.underlying138 Ty.zero138 rfl Ty.size5 rfl⟩
theorem ti140 : TI.ok Tryd.prog 140 ⟨.ptr, 1⟩ := ⟨⟨_, ⟨Tryd.underlying140⟩⟩, ⟨⟨Ty.size140⟩, by kernel_rfl⟩⟩
theorem ti142 : TI.ok Tryd.prog 142 ⟨.struct [(0, 1, false)] [.str []], 1⟩ := ⟨⟨⟨_, Tryd.underlying142, rfl⟩, ⟨Ty.size142⟩⟩, ⟨⟨9, inferInstanceAs (TyF Tryd.prog 142 0 9 0 1 false)⟩, trivial⟩, by kernel_rfl, .struct Tryd.underlying142 Ty.zero142 rfl rfl rfl rfl⟩
def tt : TT := (.node (.node (.node (.node (.node (.node .leaf 2 ⟨.int .i64, 1⟩ .leaf) 3 ⟨.int .i64, 1⟩ .leaf) 4 ⟨.bool, 1⟩ (.node (.node .leaf 5 ⟨.int .u8, 1⟩ .leaf) 9 ⟨.str, 1⟩ .leaf)) 20 ⟨.ifc, 1⟩ (.node (.node (.node .leaf 21 ⟨.int .i32, 1⟩ .leaf) 22 ⟨.int .u16, 1⟩ .leaf) 26 ⟨.slc 5 1 true, 1⟩ (.node (.node .leaf 28 ⟨.int .u16, 1⟩ .leaf) 29 ⟨.slc 33 8 false, 1⟩ .leaf))) 31 ⟨.struct [(0, 1, false), (1, 1, false), (2, 1, false), (3, 1, false)] [(.int .u16 0), (.int .i64 0), .nils, .nils], 4⟩ (.node (.node (.node (.node .leaf 33 ⟨.struct [(0, 1, false), (1, 1, false), (2, 1, false), (3, 1, false), (4, 1, false), (5, 1, false), (6, 1, false), (7, 1, false)] [(.int .i64 0), .str [], .str [], (.int .i64 0), (.int .i64 0), (.bool false), .str [], (.int .i64 0)], 8⟩ .leaf) 37 ⟨.struct [(0, 1, false), (1, 1, false), (2, 1, false), (3, 1, false), (4, 1, false), (5, 1, false), (6, 1, false), (7, 1, false), (8, 1, false), (9, 1, false)] [(.int .i64 0), (.int .i64 0), (.int .i64 0), (.int .i64 0), .str [], .str [], .str [], .str [], .str [], .nils], 10⟩ .leaf) 39 ⟨.slc 37 10 false, 1⟩ (.node (.node .leaf 50 ⟨.ptr, 1⟩ .leaf) 52 ⟨.struct [(0, 1, false), (1, 1, false)] [.nilp, .nils], 2⟩ .leaf)) 55 ⟨.ifc, 1⟩ (.node (.node (.node .leaf 62 ⟨.arr 4 3 1 false [(.int .i64 0), (.int .i64 0), (.int .i64 0), (.int .i64 0)], 4⟩ .leaf) 63 ⟨.slc 3 1 false, 1⟩ .leaf) 64 ⟨.slc 9 1 false, 1⟩ (.node (.node .leaf 65 ⟨.slc 64 1 false, 1⟩ .leaf) 71 ⟨.int .u64, 1⟩ .leaf)))) 72 ⟨.slc 75 2 false, 1⟩ (.node (.node (.node (.node (.node .leaf 75 ⟨.struct [(0, 1, false), (1, 1, false)] [.str [], .nils], 2⟩ .leaf) 78 ⟨.ptr, 1⟩ .leaf) 82 ⟨.ptr, 1⟩ (.node (.node .leaf 87 ⟨.ptr, 1⟩ .leaf) 88 ⟨.ptr, 1⟩ .leaf)) 89 ⟨.ptr, 1⟩ (.node (.node (.node .leaf 90 ⟨.arr 9 20 1 false [.nilifc, .nilifc, .nilifc, .nilifc, .nilifc, .nilifc, .nilifc, .nilifc, .nilifc], 9⟩ .leaf) 102 ⟨.arr 24 5 1 false [(.int .u8 0), (.int .u8 0), (.int .u8 0), (.int .u8 0), (.int .u8 0), (.int .u8 0), (.int .u8 0), (.int .u8 0), (.int .u8 0), (.int .u8 0), (.int .u8 0), (.int .u8 0), (.int .u8 0), (.int .u8 0), (.int .u8 0), (.int .u8 0), (.int .u8 0), (.int .u8 0), (.int .u8 0), (.int .u8 0), (.int .u8 0), (.int .u8 0), (.int .u8 0), (.int .u8 0)], 24⟩ .leaf) 103 ⟨.int .u64, 1⟩ (.node (.node .leaf 115 ⟨.arr 20 103 1 false [(.int .u64 0), (.int .u64 0), (.int .u64 0), (.int .u64 0), (.int .u64 0), (.int .u64 0), (.int .u64 0), (.int .u64 0), (.int .u64 0), (.int .u64 0), (.int .u64 0), (.int .u64 0), (.int .u64 0), (.int .u64 0), (.int .u64 0), (.int .u64 0), (.int .u64 0), (.int .u64 0), (.int .u64 0), (.int .u64 0)], 20⟩ .leaf) 116 ⟨.int .u32, 1⟩ .leaf))) 117 ⟨.arr 65 5 1 false [(.int .u8 0), (.int .u8 0), (.int .u8 0), (.int .u8 0), (.int .u8 0), (.int .u8 0), (.int .u8 0), (.int .u8 0), (.int .u8 0), (.int .u8 0), (.int .u8 0), (.int .u8 0), (.int .u8 0), (.int .u8 0), (.int .u8 0), (.int .u8 0), (.int .u8 0), (.int .u8 0), (.int .u8 0), (.int .u8 0), (.int .u8 0), (.int .u8 0), (.int .u8 0), (.int .u8 0), (.int .u8 0), (.int .u8 0), (.int .u8 0), (.int .u8 0), (.int .u8 0), (.int .u8 0), (.int .u8 0), (.int .u8 0), (.int .u8 0), (.int .u8 0), (.int .u8 0), (.int .u8 0), (.int .u8 0), (.int .u8 0), (.int .u8 0), (.int .u8 0), (.int .u8 0), (.int .u8 0), (.int .u8 0), (.int .u8 0), (.int .u8 0), (.int .u8 0), (.int .u8 0), (.int .u8 0), (.int .u8 0), (.int .u8 0), (.int .u8 0), (.int .u8 0), (.int .u8 0), (.int .u8 0), (.int .u8 0), (.int .u8 0), (.int .u8 0), (.int .u8 0), (.int .u8 0), (.int .u8 0), (.int .u8 0), (.int .u8 0), (.int .u8 0), (.int .u8 0), (.int .u8 0)], 65⟩ (.node (.node (.node (.node .leaf 119 ⟨.int .i64, 1⟩ .leaf) 122 ⟨.ptr, 1⟩ .leaf) 126 ⟨.arr 256 5 1 false [(.int .u8 0), (.int .u8 0), (.int .u8 0), (.int .u8 0), (.int .u8 0), (.int .u8 0), (.int .u8 0), (.int .u8 0), (.int .u8 0), (.int .u8 0), (.int .u8 0), (.int .u8 0), (.int .u8 0), (.int .u8 0), (.int .u8 0), (.int .u8 0), (.int .u8 0), (.int .u8 0), (.int .u8 0), (.int .u8 0), (.int .u8 0), (.int .u8 0), (.int .u8 0), (.int .u8 0), (.int .u8 0), (.int .u8 0), (.int .u8 0), (.int .u8 0), (.int .u8 0), (.int .u8 0), (.int .u8 0), (.int .u8 0), (.int .u8 0), (.int .u8 0), (.int .u8 0), (.int .u8 0), (.int .u8 0), (.int .u8 0), (.int .u8 0), (.int .u8 0), (.int .u8 0), (.int .u8 0), (.int .u8 0), (.int .u8 0), (.int .u8 0), (.int .u8 0), (.int .u8 0), (.int .u8 0), (.int .u8 0), (.int .u8 0), (.int .u8 0), (.int .u8 0), (.int .u8 0), (.int .u8 0), (.int .u8 0), (.int .u8 0), (.int .u8 0), (.int .u8 0), (.int .u8 0), (.int .u8 0), (.int .u8 0), (.int .u8 0), (.int .u8 0), (.int .u8 0), (.int .u8 0), (.int .u8 0), (.int .u8 0), (.int .u8 0), (.int .u8 0), (.int .u8 0), (.int .u8 0), (.int .u8 0), (.int .u8 0), (.int .u8 0), (.int .u8 0), (.int .u8 0), (.int .u8 0), (.int .u8 0), (.int .u8 0), (.int .u8 0), (.int .u8 0), (.int .u8 0), (.int .u8 0), (.int .u8 0), (.int .u8 0), (.int .u8 0), (.int .u8 0), (.int .u8 0), (.int .u8 0), (.int .u8 0), (.int .u8 0), (.int .u8 0), (.int .u8 0), (.int .u8 0), (.int .u8 0), (.int .u8 0), (.int .u8 0), (.int .u8 0), (.int .u8 0), (.int .u8 0), (.int .u8 0), (.int .u8 0), (.int .u8 0), (.int .u8 0), (.int .u8 0), (.int .u8 0), (.int .u8 0), (.int .u8 0), (.int .u8 0), (.int .u8 0), (.int .u8 0), (.int .u8 0), (.int .u8 0), (.int .u8 0), (.int .u8 0), (.int .u8 0), (.int .u8 0), (.int .u8 0), (.int .u8 0), (.int .u8 0), (.int .u8 0), (.int .u8 0), (.int .u8 0), (.int .u8 0), (.int .u8 0), (.int .u8 0), (.int .u8 0), (.int .u8 0), (.int .u8 0), (.int .u8 0), (.int .u8 0), (.int .u8 0), (.int .u8 0), (.int .u8 0), (.int .u8 0), (.int .u8 0), (.int .u8 0), (.int .u8 0), (.int .u8 0), (.int .u8 0), (.int .u8 0), (.int .u8 0), (.int .u8 0), (.int .u8 0), (.int .u8 0), (.int .u8 0), (.int .u8 0), (.int .u8 0), (.int .u8 0), (.int .u8 0), (.int .u8 0), (.int .u8 0), (.int .u8 0), (.int .u8 0), (.int .u8 0), (.int .u8 0), (.int .u8 0), (.int .u8 0), (.int .u8 0), (.int .u8 0), (.int .u8 0), (.int .u8 0), (.int .u8 0), (.int .u8 0), (.int .u8 0), (.int .u8 0), (.int .u8 0), (.int .u8 0), (.int .u8 0), (.int .u8 0), (.int .u8 0), (.int .u8 0), (.int .u8 0), (.int .u8 0), (.int .u8 0), (.int .u8 0), (.int .u8 0), (.int .u8 0), (.int .u8 0), (.int .u8 0), (.int .u8 0), (.int .u8 0), (.int .u8 0), (.int .u8 0), (.int .u8 0), (.int .u8 0), (.int .u8 0), (.int .u8 0), (.int .u8 0), (.int .u8 0), (.int .u8 0), (.int .u8 0), (.int .u8 0), (.int .u8 0), (.int .u8 0), (.int .u8 0), (.int .u8 0), (.int .u8 0), (.int .u8 0), (.int .u8 0), (.int .u8 0), (.int .u8 0), (.int .u8 0), (.int .u8 0), (.int .u8 0), (.int .u8 0), (.int .u8 0), (.int .u8 0), (.int .u8 0), (.int .u8 0), (.int .u8 0), (.int .u8 0), (.int .u8 0), (.int .u8 0), (.int .u8 0), (.int .u8 0), (.int .u8 0), (.int .u8 0), (.int .u8 0), (.int .u8 0), (.int .u8 0), (.int .u8 0), (.int .u8 0), (.int .u8 0), (.int .u8 0), (.int .u8 0), (.int .u8 0), (.int .u8 0), (.int .u8 0), (.int .u8 0), (.int .u8 0), (.int .u8 0), (.int .u8 0), (.int .u8 0), (.int .u8 0), (.int .u8 0), (.int .u8 0), (.int .u8 0), (.int .u8 0), (.int .u8 0), (.int .u8 0), (.int .u8 0), (.int .u8 0), (.int .u8 0), (.int .u8 0), (.int .u8 0), (.int .u8 0), (.int .u8 0), (.int .u8 0), (.int .u8 0), (.int .u8 0), (.int .u8 0), (.int .u8 0), (.int .u8 0), (.int .u8 0), (.int .u8 0)], 256⟩ (.node (.node .leaf 128 ⟨.struct [(0, 1, false), (1, 1, false)] [(.int .u8 0), (.int .u8 0)], 2⟩ .leaf) 129 ⟨.arr 16 128 2 true [(.int .u8 0), (.int .u8 0), (.int .u8 0), (.int .u8 0), (.int .u8 0), (.int .u8 0), (.int .u8 0), (.int .u8 0), (.int .u8 0), (.int .u8 0), (.int .u8 0), (.int .u8 0), (.int .u8 0), (.int .u8 0), (.int .u8 0), (.int .u8 0), (.int .u8 0), (.int .u8 0), (.int .u8 0), (.int .u8 0), (.int .u8 0), (.int .u8 0), (.int .u8 0), (.int .u8 0), (.int .u8 0), (.int .u8 0), (.int .u8 0), (.int .u8 0), (.int .u8 0), (.int .u8 0), (.int .u8 0), (.int .u8 0)], 32⟩ .leaf)) 135 ⟨.struct [(0, 1, false), (1, 1, false), (2, 1, false)] [.str [], .str [], .nilifc], 3⟩ (.node (.node (.node .leaf 137 ⟨.arr 32 5 1 false [(.int .u8 0), (.int .u8 0), (.int .u8 0), (.int .u8 0), (.int .u8 0), (.int .u8 0), (.int .u8 0), (.int .u8 0), (.int .u8 0), (.int .u8 0), (.int .u8 0), (.int .u8 0), (.int .u8 0), (.int .u8 0), (.int .u8 0), (.int .u8 0), (.int .u8 0), (.int .u8 0), (.int .u8 0), (.int .u8 0), (.int .u8 0), (.int .u8 0), (.int .u8 0), (.int .u8 0), (.int .u8 0), (.int .u8 0), (.int .u8 0), (.int .u8 0), (.int .u8 0), (.int .u8 0), (.int .u8 0), (.int .u8 0)], 32⟩ .leaf) 138 ⟨.arr 64 5 1 false [(.int .u8 0), (.int .u8 0), (.int .u8 0), (.int .u8 0), (.int .u8 0), (.int .u8 0), (.int .u8 0), (.int .u8 0), (.int .u8 0), (.int .u8 0), (.int .u8 0), (.int .u8 0), (.int .u8 0), (.int .u8 0), (.int .u8 0), (.int .u8 0), (.int .u8 0), (.int .u8 0), (.int .u8 0), (.int .u8 0), (.int .u8 0), (.int .u8 0), (.int .u8 0), (.int .u8 0), (.int .u8 0), (.int .u8 0), (.int .u8 0), (.int .u8 0), (.int .u8 0), (.int .u8 0), (.int .u8 0), (.int .u8 0), (.int .u8 0), (.int .u8 0), (.int .u8 0), (.int .u8 0), (.int .u8 0), (.int .u8 0), (.int .u8 0), (.int .u8 0), (.int .u8 0), (.int .u8 0), (.int .u8 0), (.int .u8 0), (.int .u8 0), (.int .u8 0), (.int .u8 0), (.int .u8 0), (.int .u8 0), (.int .u8 0), (.int .u8 0), (.int .u8 0), (.int .u8 0), (.int .u8 0), (.int .u8 0), (.int .u8 0), (.int .u8 0), (.int .u8 0), (.int .u8 0), (.int .u8 0), (.int .u8 0), (.int .u8 0), (.int .u8 0), (.int .u8 0)], 64⟩ .leaf) 140 ⟨.ptr, 1⟩ (.node .leaf 142 ⟨.struct [(0, 1, false)] [.str []], 1⟩ .leaf)))))
theorem tok : tt.ok Tryd.prog := ⟨⟨⟨⟨⟨⟨trivial, ti2, trivial⟩, ti3, trivial⟩, ti4, ⟨⟨trivial, ti5, trivial⟩, ti9, trivial⟩⟩, ti20, ⟨⟨⟨trivial, ti21, trivial⟩, ti22, trivial⟩, ti26, ⟨⟨trivial, ti28, trivial⟩, ti29, trivial⟩⟩⟩, ti31, ⟨⟨⟨⟨trivial, ti33, trivial⟩, ti37, trivial⟩, ti39, ⟨⟨trivial, ti50, trivial⟩, ti52, trivial⟩⟩, ti55, ⟨⟨⟨trivial, ti62, trivial⟩, ti63, trivial⟩, ti64, ⟨⟨trivial, ti65, trivial⟩, ti71, trivial⟩⟩⟩⟩, ti72, ⟨⟨⟨⟨⟨trivial, ti75, trivial⟩, ti78, trivial⟩, ti82, ⟨⟨trivial, ti87, trivial⟩, ti88, trivial⟩⟩, ti89, ⟨⟨⟨trivial, ti90, trivial⟩, ti102, trivial⟩, ti103, ⟨⟨trivial, ti115, trivial⟩, ti116, trivial⟩⟩⟩, ti117, ⟨⟨⟨⟨trivial, ti119, trivial⟩, ti122, trivial⟩, ti126, ⟨⟨trivial, ti128, trivial⟩, ti129, trivial⟩⟩, ti135, ⟨⟨⟨trivial, ti137, trivial⟩, ti138, trivial⟩, ti140, ⟨trivial, ti142, trivial⟩⟩⟩⟩⟩
end Go.Proofs.YtjcikceophcooaaDoor.Ty
end
section
set_option linter.unusedVariables false
set_option linter.unusedSimpArgs false
set_option maxRecDepth 100000
set_option maxHeartbeats 1000000
namespace Go.Proofs.YtjcikceophcooaaDoor
open Go.Al Go.RowKit
theorem noEscape_ext {w0 : Base} {σ : St} {b off : Nat} : ExtW Tryd.prog w0 52 [.ptr b off] σ (.ptr b off) := ⟨fun G w vs hI hr => by
  cases hr with
  | cons hx hr =>
  cases hr
  cases hx with
  | ptr hgb =>
  refine ⟨_, ?_, .ptr hgb⟩
  rw [run_callFunc_extern Tryd.func52 (by kernel_rfl) (by kernel_rfl) (by kernel_rfl) (e := Extern.AbiNoEscape.same) (by kernel_rfl), Lib.run_noEscape]
  rfl⟩
theorem setBox_self {σ : St} {b : Nat} {cs : List AV} (h : σ.box b = some cs) : σ.setBox b cs = σ := by
  obtain ⟨bx, tk, ob⟩ := σ
  simp only [St.setBox, St.mk.injEq, and_true]
  funext j
  by_cases hj : j = b
  · subst hj; rw [if_pos rfl]; exact h.symm
  · rw [if_neg hj]
theorem bld_info : ∃ j, Tryd.prog.info? 52 = some j ∧ j.size ≠ 0 := by
  have h : (Tryd.prog.info? 52).map (·.size) = some 2 := by kernel_rfl
  obtain ⟨j, h1, h2⟩ := Option.map_eq_some_iff.1 h
  exact ⟨j, h1, by rw [h2]; decide⟩
theorem copyCheck_any (w0 : Base) (σ : St) (b : Nat) (ad v : AV) (htag : tagOf b = some 52) (hb : σ.box b = some [ad, v]) (had : ad = .nilp ∨ ad = .ptr b 0) :
    CallW Tryd.prog w0 42 [.ptr b 0] σ (fun r s => r = .tup [] ∧ s = σ.setBox b [.ptr b 0, v]) := by
  obtain ⟨j, hj, hj0⟩ := bld_info
  rcases had with rfl | rfl
  · refine CallW.h (B := [(b, [.nilp, v])]) Ty.tok Ty.mixed Tryd.func42 rfl Tryd.ntmps42 rfl (by simp) (by decide +kernel) ((Know.nil σ).add hb (by simp)) ?_
    (try refine Xc_h ?_); (try (conv => whnf)); repeat (first | refine Hid.seq ?_ | (refine Hid.reg ?_; (conv => whnf)) | refine Hid.regD ?_ | refine Hid.cond rfl ?_ | refine Hid.block ?_ | refine Hid.loop ?_ | (refine Hid.exit ?_; (conv => whnf)) | (refine Hid.ret ?_; (conv => whnf)) | (refine Hid.skip ?_; (conv => whnf)) | (refine Hid.label ?_; (conv => whnf)) | refine Hid.range ?_)
    repeat' (((first | refine SIf.y Ty.mixed (by first | exact rfl | assumption | fail) ?_ | refine SIf.n Ty.mixed (by first | exact rfl | assumption | fail) ?_ | refine SCond.y (by first | exact rfl | assumption | fail) ?_ | refine SCond.n (by first | exact rfl | assumption | fail) ?_ | refine SPick.y (by first | exact rfl | assumption | fail) ?_ | refine SPick.n (by first | exact rfl | assumption | fail) ?_ | refine SPick.b ?_ | refine SPick.i ?_ | fail | refine SLoad.on 0 rfl ?_ | refine SLoad.on 1 rfl ?_ | refine SLoad.on 2 rfl ?_ | refine SLoad.on 3 rfl ?_ | refine SLoad.on 4 rfl ?_ | refine SLoad.on 5 rfl ?_ | refine SStore.on 0 rfl ?_ | refine SStore.on 1 rfl ?_ | refine SStore.on 2 rfl ?_ | refine SStore.on 3 rfl ?_ | refine SStore.on 4 rfl ?_ | refine SStore.on 5 rfl ?_ | refine SBox.f ?_ | refine SCall.p (by fail) ?_ | fail | refine SApp.c rfl rfl (by first | assumption | exact Moves.more (by assumption) (by assumption) | fail) (by first | (simp only [length_aBytes, List.length_append, List.length_cons, List.length_nil, List.length_map, List.length_range]; omega) | omega | fail) fun tk1 σ1 hm => ?_ | refine SReg.t 0 [] (by decide +kernel) ?_ | refine And.intro (by first | omega | (simp only [List.length_cons, List.length_append, List.length_nil, List.length_map, length_aBytes, List.length_replicate, List.length_range]; omega) | fail) ?_ | refine ⟨_, ⟨by first | omega | (simp only [List.length_cons, List.length_append, List.length_nil, List.length_map, length_aBytes, List.length_replicate, List.length_range]; omega) | fail, by first | assumption | exact get_map (by assumption) | exact get_bytes (by assumption) | fail⟩, ?_⟩ | refine ⟨_, toBytes_aBytes _, ?_⟩ | refine ⟨_, by repeat (first | exact toB_nil | apply toB_cons | apply toB_consC _ (by first | omega | (simp only [List.length_cons, List.length_append, List.length_nil, List.length_map, length_aBytes, List.length_replicate, List.length_range]; omega) | fail)), ?_⟩ | refine ⟨_, IntWalk.i64_in _ (by first | omega | (simp only [List.length_cons, List.length_append, List.length_nil, List.length_map, length_aBytes, List.length_replicate, List.length_range]; omega) | fail), ?_⟩ | refine ⟨_, wrap_u8 _, ?_⟩ | refine ⟨_, rfl, ?_⟩ | refine ⟨true, fun b1 hb1 => ?_⟩ | intro b1 hb1 | fail); (try refine Xc_h ?_); (try (conv => whnf)); repeat (first | refine Hid.seq ?_ | (refine Hid.reg ?_; (conv => whnf)) | refine Hid.regD ?_ | refine Hid.cond rfl ?_ | refine Hid.block ?_ | refine Hid.loop ?_ | (refine Hid.exit ?_; (conv => whnf)) | (refine Hid.ret ?_; (conv => whnf)) | (refine Hid.skip ?_; (conv => whnf)) | (refine Hid.label ?_; (conv => whnf)) | refine Hid.range ?_)))
    refine SOper.toU 0 rfl rfl Tryd.underlying50 Tryd.underlying96 hj hj0 (by simp) ?_
    (try refine Xc_h ?_); (try (conv => whnf)); repeat (first | refine Hid.seq ?_ | (refine Hid.reg ?_; (conv => whnf)) | refine Hid.regD ?_ | refine Hid.cond rfl ?_ | refine Hid.block ?_ | refine Hid.loop ?_ | (refine Hid.exit ?_; (conv => whnf)) | (refine Hid.ret ?_; (conv => whnf)) | (refine Hid.skip ?_; (conv => whnf)) | (refine Hid.label ?_; (conv => whnf)) | refine Hid.range ?_)
    refine SCall.e noEscape_ext rfl ?_
    (try refine Xc_h ?_); (try (conv => whnf)); repeat (first | refine Hid.seq ?_ | (refine Hid.reg ?_; (conv => whnf)) | refine Hid.regD ?_ | refine Hid.cond rfl ?_ | refine Hid.block ?_ | refine Hid.loop ?_ | (refine Hid.exit ?_; (conv => whnf)) | (refine Hid.ret ?_; (conv => whnf)) | (refine Hid.skip ?_; (conv => whnf)) | (refine Hid.label ?_; (conv => whnf)) | refine Hid.range ?_)
    refine SOper.ofU 0 rfl rfl rfl htag Tryd.underlying96 Tryd.underlying50 hj (by kernel_rfl) ?_
    (try refine Xc_h ?_); (try (conv => whnf)); repeat (first | refine Hid.seq ?_ | (refine Hid.reg ?_; (conv => whnf)) | refine Hid.regD ?_ | refine Hid.cond rfl ?_ | refine Hid.block ?_ | refine Hid.loop ?_ | (refine Hid.exit ?_; (conv => whnf)) | (refine Hid.ret ?_; (conv => whnf)) | (refine Hid.skip ?_; (conv => whnf)) | (refine Hid.label ?_; (conv => whnf)) | refine Hid.range ?_)
    repeat' (((first | refine SIf.y Ty.mixed (by first | exact rfl | assumption | fail) ?_ | refine SIf.n Ty.mixed (by first | exact rfl | assumption | fail) ?_ | refine SCond.y (by first | exact rfl | assumption | fail) ?_ | refine SCond.n (by first | exact rfl | assumption | fail) ?_ | refine SPick.y (by first | exact rfl | assumption | fail) ?_ | refine SPick.n (by first | exact rfl | assumption | fail) ?_ | refine SPick.b ?_ | refine SPick.i ?_ | fail | refine SLoad.on 0 rfl ?_ | refine SLoad.on 1 rfl ?_ | refine SLoad.on 2 rfl ?_ | refine SLoad.on 3 rfl ?_ | refine SLoad.on 4 rfl ?_ | refine SLoad.on 5 rfl ?_ | refine SStore.on 0 rfl ?_ | refine SStore.on 1 rfl ?_ | refine SStore.on 2 rfl ?_ | refine SStore.on 3 rfl ?_ | refine SStore.on 4 rfl ?_ | refine SStore.on 5 rfl ?_ | refine SBox.f ?_ | refine SCall.p (by fail) ?_ | fail | refine SApp.c rfl rfl (by first | assumption | exact Moves.more (by assumption) (by assumption) | fail) (by first | (simp only [length_aBytes, List.length_append, List.length_cons, List.length_nil, List.length_map, List.length_range]; omega) | omega | fail) fun tk1 σ1 hm => ?_ | refine SReg.t 0 [] (by decide +kernel) ?_ | refine And.intro (by first | omega | (simp only [List.length_cons, List.length_append, List.length_nil, List.length_map, length_aBytes, List.length_replicate, List.length_range]; omega) | fail) ?_ | refine ⟨_, ⟨by first | omega | (simp only [List.length_cons, List.length_append, List.length_nil, List.length_map, length_aBytes, List.length_replicate, List.length_range]; omega) | fail, by first | assumption | exact get_map (by assumption) | exact get_bytes (by assumption) | fail⟩, ?_⟩ | refine ⟨_, toBytes_aBytes _, ?_⟩ | refine ⟨_, by repeat (first | exact toB_nil | apply toB_cons | apply toB_consC _ (by first | omega | (simp only [List.length_cons, List.length_append, List.length_nil, List.length_map, length_aBytes, List.length_replicate, List.length_range]; omega) | fail)), ?_⟩ | refine ⟨_, IntWalk.i64_in _ (by first | omega | (simp only [List.length_cons, List.length_append, List.length_nil, List.length_map, length_aBytes, List.length_replicate, List.length_range]; omega) | fail), ?_⟩ | refine ⟨_, wrap_u8 _, ?_⟩ | refine ⟨_, rfl, ?_⟩ | refine ⟨true, fun b1 hb1 => ?_⟩ | intro b1 hb1 | fail); (try refine Xc_h ?_); (try (conv => whnf)); repeat (first | refine Hid.seq ?_ | (refine Hid.reg ?_; (conv => whnf)) | refine Hid.regD ?_ | refine Hid.cond rfl ?_ | refine Hid.block ?_ | refine Hid.loop ?_ | (refine Hid.exit ?_; (conv => whnf)) | (refine Hid.ret ?_; (conv => whnf)) | (refine Hid.skip ?_; (conv => whnf)) | (refine Hid.label ?_; (conv => whnf)) | refine Hid.range ?_)))
    exact .w ⟨rfl, rfl⟩
  · refine CallW.h (B := [(b, [.ptr b 0, v])]) Ty.tok Ty.mixed Tryd.func42 rfl Tryd.ntmps42 rfl (by simp) (by decide +kernel) ((Know.nil σ).add hb (by simp)) ?_
    (try refine Xc_h ?_); (try (conv => whnf)); repeat (first | refine Hid.seq ?_ | (refine Hid.reg ?_; (conv => whnf)) | refine Hid.regD ?_ | refine Hid.cond rfl ?_ | refine Hid.block ?_ | refine Hid.loop ?_ | (refine Hid.exit ?_; (conv => whnf)) | (refine Hid.ret ?_; (conv => whnf)) | (refine Hid.skip ?_; (conv => whnf)) | (refine Hid.label ?_; (conv => whnf)) | refine Hid.range ?_)
    repeat' (((first | refine SIf.y Ty.mixed (by first | exact rfl | assumption | fail) ?_ | refine SIf.n Ty.mixed (by first | exact rfl | assumption | fail) ?_ | refine SCond.y (by first | exact rfl | assumption | fail) ?_ | refine SCond.n (by first | exact rfl | assumption | fail) ?_ | refine SPick.y (by first | exact rfl | assumption | fail) ?_ | refine SPick.n (by first | exact rfl | assumption | fail) ?_ | refine SPick.b ?_ | refine SPick.i ?_ | fail | refine SLoad.on 0 rfl ?_ | refine SLoad.on 1 rfl ?_ | refine SLoad.on 2 rfl ?_ | refine SLoad.on 3 rfl ?_ | refine SLoad.on 4 rfl ?_ | refine SLoad.on 5 rfl ?_ | refine SStore.on 0 rfl ?_ | refine SStore.on 1 rfl ?_ | refine SStore.on 2 rfl ?_ | refine SStore.on 3 rfl ?_ | refine SStore.on 4 rfl ?_ | refine SStore.on 5 rfl ?_ | refine SBox.f ?_ | refine SCall.p (by fail) ?_ | fail | refine SApp.c rfl rfl (by first | assumption | exact Moves.more (by assumption) (by assumption) | fail) (by first | (simp only [length_aBytes, List.length_append, List.length_cons, List.length_nil, List.length_map, List.length_range]; omega) | omega | fail) fun tk1 σ1 hm => ?_ | refine SReg.t 0 [] (by decide +kernel) ?_ | refine And.intro (by first | omega | (simp only [List.length_cons, List.length_append, List.length_nil, List.length_map, length_aBytes, List.length_replicate, List.length_range]; omega) | fail) ?_ | refine ⟨_, ⟨by first | omega | (simp only [List.length_cons, List.length_append, List.length_nil, List.length_map, length_aBytes, List.length_replicate, List.length_range]; omega) | fail, by first | assumption | exact get_map (by assumption) | exact get_bytes (by assumption) | fail⟩, ?_⟩ | refine ⟨_, toBytes_aBytes _, ?_⟩ | refine ⟨_, by repeat (first | exact toB_nil | apply toB_cons | apply toB_consC _ (by first | omega | (simp only [List.length_cons, List.length_append, List.length_nil, List.length_map, length_aBytes, List.length_replicate, List.length_range]; omega) | fail)), ?_⟩ | refine ⟨_, IntWalk.i64_in _ (by first | omega | (simp only [List.length_cons, List.length_append, List.length_nil, List.length_map, length_aBytes, List.length_replicate, List.length_range]; omega) | fail), ?_⟩ | refine ⟨_, wrap_u8 _, ?_⟩ | refine ⟨_, rfl, ?_⟩ | refine ⟨true, fun b1 hb1 => ?_⟩ | intro b1 hb1 | fail); (try refine Xc_h ?_); (try (conv => whnf)); repeat (first | refine Hid.seq ?_ | (refine Hid.reg ?_; (conv => whnf)) | refine Hid.regD ?_ | refine Hid.cond rfl ?_ | refine Hid.block ?_ | refine Hid.loop ?_ | (refine Hid.exit ?_; (conv => whnf)) | (refine Hid.ret ?_; (conv => whnf)) | (refine Hid.skip ?_; (conv => whnf)) | (refine Hid.label ?_; (conv => whnf)) | refine Hid.range ?_)))
    refine SOper.neqP rfl rfl Tryd.underlying50 hj ?_
    (try refine Xc_h ?_); (try (conv => whnf)); repeat (first | refine Hid.seq ?_ | (refine Hid.reg ?_; (conv => whnf)) | refine Hid.regD ?_ | refine Hid.cond rfl ?_ | refine Hid.block ?_ | refine Hid.loop ?_ | (refine Hid.exit ?_; (conv => whnf)) | (refine Hid.ret ?_; (conv => whnf)) | (refine Hid.skip ?_; (conv => whnf)) | (refine Hid.label ?_; (conv => whnf)) | refine Hid.range ?_)
    repeat' (((first | refine SIf.y Ty.mixed (by first | exact rfl | assumption | fail) ?_ | refine SIf.n Ty.mixed (by first | exact rfl | assumption | fail) ?_ | refine SCond.y (by first | exact rfl | assumption | fail) ?_ | refine SCond.n (by first | exact rfl | assumption | fail) ?_ | refine SPick.y (by first | exact rfl | assumption | fail) ?_ | refine SPick.n (by first | exact rfl | assumption | fail) ?_ | refine SPick.b ?_ | refine SPick.i ?_ | fail | refine SLoad.on 0 rfl ?_ | refine SLoad.on 1 rfl ?_ | refine SLoad.on 2 rfl ?_ | refine SLoad.on 3 rfl ?_ | refine SLoad.on 4 rfl ?_ | refine SLoad.on 5 rfl ?_ | refine SStore.on 0 rfl ?_ | refine SStore.on 1 rfl ?_ | refine SStore.on 2 rfl ?_ | refine SStore.on 3 rfl ?_ | refine SStore.on 4 rfl ?_ | refine SStore.on 5 rfl ?_ | refine SBox.f ?_ | refine SCall.p (by fail) ?_ | fail | refine SApp.c rfl rfl (by first | assumption | exact Moves.more (by assumption) (by assumption) | fail) (by first | (simp only [length_aBytes, List.length_append, List.length_cons, List.length_nil, List.length_map, List.length_range]; omega) | omega | fail) fun tk1 σ1 hm => ?_ | refine SReg.t 0 [] (by decide +kernel) ?_ | refine And.intro (by first | omega | (simp only [List.length_cons, List.length_append, List.length_nil, List.length_map, length_aBytes, List.length_replicate, List.length_range]; omega) | fail) ?_ | refine ⟨_, ⟨by first | omega | (simp only [List.length_cons, List.length_append, List.length_nil, List.length_map, length_aBytes, List.length_replicate, List.length_range]; omega) | fail, by first | assumption | exact get_map (by assumption) | exact get_bytes (by assumption) | fail⟩, ?_⟩ | refine ⟨_, toBytes_aBytes _, ?_⟩ | refine ⟨_, by repeat (first | exact toB_nil | apply toB_cons | apply toB_consC _ (by first | omega | (simp only [List.length_cons, List.length_append, List.length_nil, List.length_map, length_aBytes, List.length_replicate, List.length_range]; omega) | fail)), ?_⟩ | refine ⟨_, IntWalk.i64_in _ (by first | omega | (simp only [List.length_cons, List.length_append, List.length_nil, List.length_map, length_aBytes, List.length_replicate, List.length_range]; omega) | fail), ?_⟩ | refine ⟨_, wrap_u8 _, ?_⟩ | refine ⟨_, rfl, ?_⟩ | refine ⟨true, fun b1 hb1 => ?_⟩ | intro b1 hb1 | fail); (try refine Xc_h ?_); (try (conv => whnf)); repeat (first | refine Hid.seq ?_ | (refine Hid.reg ?_; (conv => whnf)) | refine Hid.regD ?_ | refine Hid.cond rfl ?_ | refine Hid.block ?_ | refine Hid.loop ?_ | (refine Hid.exit ?_; (conv => whnf)) | (refine Hid.ret ?_; (conv => whnf)) | (refine Hid.skip ?_; (conv => whnf)) | (refine Hid.label ?_; (conv => whnf)) | refine Hid.range ?_)))
    exact .w ⟨rfl, (setBox_self hb).symm⟩
structure Bld (σ τ : St) (b : Nat) (bs : List UInt8) : Prop where
  tag : tagOf b = some 52
  new : σ.box b = none
  le : St.Le σ τ
  here : ∃ ad v o, τ.box b = some [ad, v] ∧ (ad = .nilp ∨ ad = .ptr b 0) ∧ RowT τ 5 (aBytes bs) v o ∧ ∀ i, o = some i → σ.box i = none
theorem Bld.start {σ : St} {b : Nat} (h : tagOf b = some 52) (hb : σ.box b = none) : Bld σ (σ.setBox b [.nilp, .nils]) b [] :=
  ⟨h, hb, le_setBox (.refl _) hb, .nilp, .nils, none, setBox_same, .inl rfl, ⟨.inl ⟨rfl, rfl, rfl⟩⟩, fun i h => by cases h⟩
theorem bytes_one (bs : List UInt8) : ∀ x ∈ aBytes bs, x.cells = [x] := fun x hx => by
  obtain ⟨y, _, rfl⟩ := List.mem_map.1 hx
  rfl
theorem bytes_len (bs : List UInt8) : (aBytes bs).length = bs.length := by simp [aBytes]
theorem bytes_app (bs cs : List UInt8) : aBytes bs ++ aBytes cs = aBytes (bs ++ cs) := by simp [aBytes]
theorem Bld.ne {σ τ : St} {b : Nat} {bs : List UInt8} {v : AV} {o : Option Nat} (h : Bld σ τ b bs) (hr : RowT τ 5 (aBytes bs) v o) : o ≠ some b := fun e => by
  rcases hr.go with ⟨_, _, h1⟩ | ⟨b0, _, _, _, h1, h2, _⟩
  · rw [e] at h1; cases h1
  · rw [e] at h1
    cases h1
    rw [h.tag] at h2
    exact absurd (Option.some.inj h2) (by decide)
theorem Bld.wrote {σ τ s σ' : St} {b b' cap n' : Nat} {bs cs : List UInt8} {v : AV} {o : Option Nat} (h : Bld σ τ b bs) (ho : ∀ i, o = some i → σ.box i = none) (hob : o ≠ some b) (hs : s = τ.setBox b [.ptr b 0, v]) (q1 : RowT σ' 5 (aBytes bs ++ aBytes cs) (.msl b' 0 n' cap) (some b'))
    (q2 : o = some b' ∨ s.box b' = none) (q3 : ∀ i es, o ≠ some i → s.box i = some es → σ'.box i = some es) (q4 : σ'.tok = s.tok ∧ σ'.obj = s.obj) : Bld σ (σ'.setBox b [.ptr b 0, .msl b' 0 n' cap]) b (bs ++ cs) := by
  subst hs
  have hb' : σ.box b' = none := by
    rcases q2 with q2 | q2
    · exact ho b' q2
    · have hne : b' ≠ b := by rintro rfl; rw [setBox_same] at q2; cases q2
      rw [setBox_ne hne] at q2
      exact le_none h.le q2
  have hne : b' ≠ b := by
    rintro rfl
    rcases q1.go with ⟨_, _, h1⟩ | ⟨b0, _, _, _, h1, h2, _⟩
    · cases h1
    · cases h1
      rw [h.tag] at h2
      exact absurd (Option.some.inj h2) (by decide)
  refine ⟨h.tag, h.new, ⟨fun i es e => ?_, fun t e => ?_, fun l q e => ?_⟩, .ptr b 0, _, some b', setBox_same, .inr rfl, ?_, fun i e => by cases e; exact hb'⟩
  · have hib : i ≠ b := by rintro rfl; rw [h.new] at e; cases e
    rw [setBox_ne hib]
    refine q3 i es (fun e2 => ?_) (by rw [setBox_ne hib]; exact h.le.box i es e)
    rw [ho i e2] at e; cases e
  · show σ'.tok t = true
    rw [q4.1]; exact h.le.tok t e
  · show σ'.obj l = some q
    rw [q4.2]; exact h.le.obj l q e
  · rw [← bytes_app]
    rcases q1.go with ⟨_, h1, _⟩ | ⟨b0, c0, junk, e1, e2, e3, e4, e5⟩
    · cases h1
    · cases e2
      refine ⟨.inr ⟨_, c0, junk, e1, rfl, e3, ?_, e5⟩⟩
      rw [setBox_ne hne]; exact e4
theorem rowT_set {τ : St} {tg b : Nat} {bs cs : List AV} {v : AV} {o : Option Nat} (h : RowT τ tg bs v o) (hne : o ≠ some b) : RowT (τ.setBox b cs) tg bs v o := by
  rcases h.go with ⟨h1, h2, h3⟩ | ⟨b0, c0, junk, e1, e2, e3, e4, e5⟩
  · exact ⟨.inl ⟨h1, h2, h3⟩⟩
  · subst e2
    exact ⟨.inr ⟨b0, c0, junk, e1, rfl, e3, by rw [setBox_ne (fun e => hne (by rw [e]))]; exact e4, e5⟩⟩
theorem rowT_kind {τ : St} {tg : Nat} {bs : List AV} {v : AV} {o : Option Nat} (h : RowT τ tg bs v o) : v = .nils ∨ ∃ b n c, v = .msl b 0 n c := by
  rcases h.go with ⟨_, h, _⟩ | ⟨b0, c0, _, h, _⟩
  · exact .inl h
  · exact .inr ⟨_, _, _, h⟩
theorem writeByte_any (w0 : Base) {σ τ : St} {b : Nat} {bs : List UInt8} (h : Bld σ τ b bs) (c : UInt8) (hl : bs.length + 1 ≤ 140737488355328) :
    CallW Tryd.prog w0 24 [.ptr b 0, .int .u8 c.toNat] τ (fun r s => r = .nilifc ∧ Bld σ s b (bs ++ [c])) := by
  obtain ⟨ad, v, o, hb, had, hr, ho⟩ := h.here
  have hob := h.ne hr
  have hty : Tryd.prog.underlying 26 = some (.slice 5) := Tryd.underlying26
  refine CallW.h (B := []) Ty.tok Ty.mixed Tryd.func24 rfl Tryd.ntmps24 rfl (by simp) (by decide +kernel) (.nil τ) ?_
  have hk := rowT_kind hr
  (try refine Xc_h ?_); (try (conv => whnf)); repeat (first | refine Hid.seq ?_ | (refine Hid.reg ?_; (conv => whnf)) | refine Hid.regD ?_ | refine Hid.cond rfl ?_ | refine Hid.block ?_ | refine Hid.loop ?_ | (refine Hid.exit ?_; (conv => whnf)) | (refine Hid.ret ?_; (conv => whnf)) | (refine Hid.skip ?_; (conv => whnf)) | (refine Hid.label ?_; (conv => whnf)) | refine Hid.range ?_)
  repeat' (((first | refine SIf.y Ty.mixed (by first | exact rfl | assumption | fail) ?_ | refine SIf.n Ty.mixed (by first | exact rfl | assumption | fail) ?_ | refine SCond.y (by first | exact rfl | assumption | fail) ?_ | refine SCond.n (by first | exact rfl | assumption | fail) ?_ | refine SPick.y (by first | exact rfl | assumption | fail) ?_ | refine SPick.n (by first | exact rfl | assumption | fail) ?_ | refine SPick.b ?_ | refine SPick.i ?_ | fail | refine SLoad.on 0 rfl ?_ | refine SLoad.on 1 rfl ?_ | refine SLoad.on 2 rfl ?_ | refine SLoad.on 3 rfl ?_ | refine SLoad.on 4 rfl ?_ | refine SLoad.on 5 rfl ?_ | refine SStore.on 0 rfl ?_ | refine SStore.on 1 rfl ?_ | refine SStore.on 2 rfl ?_ | refine SStore.on 3 rfl ?_ | refine SStore.on 4 rfl ?_ | refine SStore.on 5 rfl ?_ | refine SBox.f ?_ | refine SCall.p (by fail) ?_ | fail | refine SApp.c rfl rfl (by first | assumption | exact Moves.more (by assumption) (by assumption) | fail) (by first | (simp only [length_aBytes, List.length_append, List.length_cons, List.length_nil, List.length_map, List.length_range]; omega) | omega | fail) fun tk1 σ1 hm => ?_ | refine SReg.t 0 [] (by decide +kernel) ?_ | refine And.intro (by first | omega | (simp only [List.length_cons, List.length_append, List.length_nil, List.length_map, length_aBytes, List.length_replicate, List.length_range]; omega) | fail) ?_ | refine ⟨_, ⟨by first | omega | (simp only [List.length_cons, List.length_append, List.length_nil, List.length_map, length_aBytes, List.length_replicate, List.length_range]; omega) | fail, by first | assumption | exact get_map (by assumption) | exact get_bytes (by assumption) | fail⟩, ?_⟩ | refine ⟨_, toBytes_aBytes _, ?_⟩ | refine ⟨_, by repeat (first | exact toB_nil | apply toB_cons | apply toB_consC _ (by first | omega | (simp only [List.length_cons, List.length_append, List.length_nil, List.length_map, length_aBytes, List.length_replicate, List.length_range]; omega) | fail)), ?_⟩ | refine ⟨_, IntWalk.i64_in _ (by first | omega | (simp only [List.length_cons, List.length_append, List.length_nil, List.length_map, length_aBytes, List.length_replicate, List.length_range]; omega) | fail), ?_⟩ | refine ⟨_, wrap_u8 _, ?_⟩ | refine ⟨_, rfl, ?_⟩ | refine ⟨true, fun b1 hb1 => ?_⟩ | intro b1 hb1 | fail); (try refine Xc_h ?_); (try (conv => whnf)); repeat (first | refine Hid.seq ?_ | (refine Hid.reg ?_; (conv => whnf)) | refine Hid.regD ?_ | refine Hid.cond rfl ?_ | refine Hid.block ?_ | refine Hid.loop ?_ | (refine Hid.exit ?_; (conv => whnf)) | (refine Hid.ret ?_; (conv => whnf)) | (refine Hid.skip ?_; (conv => whnf)) | (refine Hid.label ?_; (conv => whnf)) | refine Hid.range ?_)))
  refine SCall.w (copyCheck_any w0 τ b ad v h.tag hb had) rfl ?_
  rintro r s ⟨rfl, hs⟩ hB
  refine ⟨[(b, [.ptr b 0, v])], (Know.nil _).add (by rw [hs]; exact setBox_same) (by simp), ?_⟩
  have hr2 : RowT s 5 (aBytes bs) v o := by rw [hs]; exact rowT_set hr hob
  have hB1 : ∀ p ∈ [(b, [AV.ptr b 0, v])], o ≠ some p.1 := fun p hp => by obtain rfl := List.mem_singleton.1 hp; exact hob
  clear hr hb
  rcases hk with rfl | ⟨b0, n0, c0, rfl⟩
  all_goals
    (try refine Xc_h ?_); (try (conv => whnf)); repeat (first | refine Hid.seq ?_ | (refine Hid.reg ?_; (conv => whnf)) | refine Hid.regD ?_ | refine Hid.cond rfl ?_ | refine Hid.block ?_ | refine Hid.loop ?_ | (refine Hid.exit ?_; (conv => whnf)) | (refine Hid.ret ?_; (conv => whnf)) | (refine Hid.skip ?_; (conv => whnf)) | (refine Hid.label ?_; (conv => whnf)) | refine Hid.range ?_)
    repeat' (((first | refine SIf.y Ty.mixed (by first | exact rfl | assumption | fail) ?_ | refine SIf.n Ty.mixed (by first | exact rfl | assumption | fail) ?_ | refine SCond.y (by first | exact rfl | assumption | fail) ?_ | refine SCond.n (by first | exact rfl | assumption | fail) ?_ | refine SPick.y (by first | exact rfl | assumption | fail) ?_ | refine SPick.n (by first | exact rfl | assumption | fail) ?_ | refine SPick.b ?_ | refine SPick.i ?_ | fail | refine SLoad.on 0 rfl ?_ | refine SLoad.on 1 rfl ?_ | refine SLoad.on 2 rfl ?_ | refine SLoad.on 3 rfl ?_ | refine SLoad.on 4 rfl ?_ | refine SLoad.on 5 rfl ?_ | refine SStore.on 0 rfl ?_ | refine SStore.on 1 rfl ?_ | refine SStore.on 2 rfl ?_ | refine SStore.on 3 rfl ?_ | refine SStore.on 4 rfl ?_ | refine SStore.on 5 rfl ?_ | refine SBox.f ?_ | refine SCall.p (by fail) ?_ | fail | refine SApp.c rfl rfl (by first | assumption | exact Moves.more (by assumption) (by assumption) | fail) (by first | (simp only [length_aBytes, List.length_append, List.length_cons, List.length_nil, List.length_map, List.length_range]; omega) | omega | fail) fun tk1 σ1 hm => ?_ | refine SReg.t 0 [] (by decide +kernel) ?_ | refine And.intro (by first | omega | (simp only [List.length_cons, List.length_append, List.length_nil, List.length_map, length_aBytes, List.length_replicate, List.length_range]; omega) | fail) ?_ | refine ⟨_, ⟨by first | omega | (simp only [List.length_cons, List.length_append, List.length_nil, List.length_map, length_aBytes, List.length_replicate, List.length_range]; omega) | fail, by first | assumption | exact get_map (by assumption) | exact get_bytes (by assumption) | fail⟩, ?_⟩ | refine ⟨_, toBytes_aBytes _, ?_⟩ | refine ⟨_, by repeat (first | exact toB_nil | apply toB_cons | apply toB_consC _ (by first | omega | (simp only [List.length_cons, List.length_append, List.length_nil, List.length_map, length_aBytes, List.length_replicate, List.length_range]; omega) | fail)), ?_⟩ | refine ⟨_, IntWalk.i64_in _ (by first | omega | (simp only [List.length_cons, List.length_append, List.length_nil, List.length_map, length_aBytes, List.length_replicate, List.length_range]; omega) | fail), ?_⟩ | refine ⟨_, wrap_u8 _, ?_⟩ | refine ⟨_, rfl, ?_⟩ | refine ⟨true, fun b1 hb1 => ?_⟩ | intro b1 hb1 | fail); (try refine Xc_h ?_); (try (conv => whnf)); repeat (first | refine Hid.seq ?_ | (refine Hid.reg ?_; (conv => whnf)) | refine Hid.regD ?_ | refine Hid.cond rfl ?_ | refine Hid.block ?_ | refine Hid.loop ?_ | (refine Hid.exit ?_; (conv => whnf)) | (refine Hid.ret ?_; (conv => whnf)) | (refine Hid.skip ?_; (conv => whnf)) | (refine Hid.label ?_; (conv => whnf)) | refine Hid.range ?_)))
    refine SApp.rowT (bs := aBytes bs) (ys := aBytes [c]) rfl hr2 rfl (by simp [aBytes]) hty (by decide) (fun x hx => by rw [bytes_app] at hx; exact bytes_one _ x hx) (by rw [bytes_len, bytes_len]; simpa using hl) hB1 ?_
    intro b' cap' σ' q1 q2 q3 q4
    (try refine Xc_h ?_); (try (conv => whnf)); repeat (first | refine Hid.seq ?_ | (refine Hid.reg ?_; (conv => whnf)) | refine Hid.regD ?_ | refine Hid.cond rfl ?_ | refine Hid.block ?_ | refine Hid.loop ?_ | (refine Hid.exit ?_; (conv => whnf)) | (refine Hid.ret ?_; (conv => whnf)) | (refine Hid.skip ?_; (conv => whnf)) | (refine Hid.label ?_; (conv => whnf)) | refine Hid.range ?_)
    repeat' (((first | refine SIf.y Ty.mixed (by first | exact rfl | assumption | fail) ?_ | refine SIf.n Ty.mixed (by first | exact rfl | assumption | fail) ?_ | refine SCond.y (by first | exact rfl | assumption | fail) ?_ | refine SCond.n (by first | exact rfl | assumption | fail) ?_ | refine SPick.y (by first | exact rfl | assumption | fail) ?_ | refine SPick.n (by first | exact rfl | assumption | fail) ?_ | refine SPick.b ?_ | refine SPick.i ?_ | fail | refine SLoad.on 0 rfl ?_ | refine SLoad.on 1 rfl ?_ | refine SLoad.on 2 rfl ?_ | refine SLoad.on 3 rfl ?_ | refine SLoad.on 4 rfl ?_ | refine SLoad.on 5 rfl ?_ | refine SStore.on 0 rfl ?_ | refine SStore.on 1 rfl ?_ | refine SStore.on 2 rfl ?_ | refine SStore.on 3 rfl ?_ | refine SStore.on 4 rfl ?_ | refine SStore.on 5 rfl ?_ | refine SBox.f ?_ | refine SCall.p (by fail) ?_ | fail | refine SApp.c rfl rfl (by first | assumption | exact Moves.more (by assumption) (by assumption) | fail) (by first | (simp only [length_aBytes, List.length_append, List.length_cons, List.length_nil, List.length_map, List.length_range]; omega) | omega | fail) fun tk1 σ1 hm => ?_ | refine SReg.t 0 [] (by decide +kernel) ?_ | refine And.intro (by first | omega | (simp only [List.length_cons, List.length_append, List.length_nil, List.length_map, length_aBytes, List.length_replicate, List.length_range]; omega) | fail) ?_ | refine ⟨_, ⟨by first | omega | (simp only [List.length_cons, List.length_append, List.length_nil, List.length_map, length_aBytes, List.length_replicate, List.length_range]; omega) | fail, by first | assumption | exact get_map (by assumption) | exact get_bytes (by assumption) | fail⟩, ?_⟩ | refine ⟨_, toBytes_aBytes _, ?_⟩ | refine ⟨_, by repeat (first | exact toB_nil | apply toB_cons | apply toB_consC _ (by first | omega | (simp only [List.length_cons, List.length_append, List.length_nil, List.length_map, length_aBytes, List.length_replicate, List.length_range]; omega) | fail)), ?_⟩ | refine ⟨_, IntWalk.i64_in _ (by first | omega | (simp only [List.length_cons, List.length_append, List.length_nil, List.length_map, length_aBytes, List.length_replicate, List.length_range]; omega) | fail), ?_⟩ | refine ⟨_, wrap_u8 _, ?_⟩ | refine ⟨_, rfl, ?_⟩ | refine ⟨true, fun b1 hb1 => ?_⟩ | intro b1 hb1 | fail); (try refine Xc_h ?_); (try (conv => whnf)); repeat (first | refine Hid.seq ?_ | (refine Hid.reg ?_; (conv => whnf)) | refine Hid.regD ?_ | refine Hid.cond rfl ?_ | refine Hid.block ?_ | refine Hid.loop ?_ | (refine Hid.exit ?_; (conv => whnf)) | (refine Hid.ret ?_; (conv => whnf)) | (refine Hid.skip ?_; (conv => whnf)) | (refine Hid.label ?_; (conv => whnf)) | refine Hid.range ?_)))
    exact .w ⟨rfl, h.wrote ho hob hs q1 q2 q3 q4⟩
theorem writeString_any (w0 : Base) {σ τ : St} {b : Nat} {bs : List UInt8} (h : Bld σ τ b bs) (s0 : List UInt8) (h0 : s0 ≠ []) (hl : bs.length + s0.length ≤ 140737488355328) :
    CallW Tryd.prog w0 25 [.ptr b 0, .str s0] τ (fun r s => r = .tup [.int .i64 s0.length, .nilifc] ∧ Bld σ s b (bs ++ s0)) := by
  obtain ⟨ad, v, o, hb, had, hr, ho⟩ := h.here
  have hob := h.ne hr
  have hty : Tryd.prog.underlying 26 = some (.slice 5) := Tryd.underlying26
  refine CallW.h (B := []) Ty.tok Ty.mixed Tryd.func25 rfl Tryd.ntmps25 rfl (by simp) (by decide +kernel) (.nil τ) ?_
  have hk := rowT_kind hr
  (try refine Xc_h ?_); (try (conv => whnf)); repeat (first | refine Hid.seq ?_ | (refine Hid.reg ?_; (conv => whnf)) | refine Hid.regD ?_ | refine Hid.cond rfl ?_ | refine Hid.block ?_ | refine Hid.loop ?_ | (refine Hid.exit ?_; (conv => whnf)) | (refine Hid.ret ?_; (conv => whnf)) | (refine Hid.skip ?_; (conv => whnf)) | (refine Hid.label ?_; (conv => whnf)) | refine Hid.range ?_)
  repeat' (((first | refine SIf.y Ty.mixed (by first | exact rfl | assumption | fail) ?_ | refine SIf.n Ty.mixed (by first | exact rfl | assumption | fail) ?_ | refine SCond.y (by first | exact rfl | assumption | fail) ?_ | refine SCond.n (by first | exact rfl | assumption | fail) ?_ | refine SPick.y (by first | exact rfl | assumption | fail) ?_ | refine SPick.n (by first | exact rfl | assumption | fail) ?_ | refine SPick.b ?_ | refine SPick.i ?_ | fail | refine SLoad.on 0 rfl ?_ | refine SLoad.on 1 rfl ?_ | refine SLoad.on 2 rfl ?_ | refine SLoad.on 3 rfl ?_ | refine SLoad.on 4 rfl ?_ | refine SLoad.on 5 rfl ?_ | refine SStore.on 0 rfl ?_ | refine SStore.on 1 rfl ?_ | refine SStore.on 2 rfl ?_ | refine SStore.on 3 rfl ?_ | refine SStore.on 4 rfl ?_ | refine SStore.on 5 rfl ?_ | refine SBox.f ?_ | refine SCall.p (by fail) ?_ | fail | refine SApp.c rfl rfl (by first | assumption | exact Moves.more (by assumption) (by assumption) | fail) (by first | (simp only [length_aBytes, List.length_append, List.length_cons, List.length_nil, List.length_map, List.length_range]; omega) | omega | fail) fun tk1 σ1 hm => ?_ | refine SReg.t 0 [] (by decide +kernel) ?_ | refine And.intro (by first | omega | (simp only [List.length_cons, List.length_append, List.length_nil, List.length_map, length_aBytes, List.length_replicate, List.length_range]; omega) | fail) ?_ | refine ⟨_, ⟨by first | omega | (simp only [List.length_cons, List.length_append, List.length_nil, List.length_map, length_aBytes, List.length_replicate, List.length_range]; omega) | fail, by first | assumption | exact get_map (by assumption) | exact get_bytes (by assumption) | fail⟩, ?_⟩ | refine ⟨_, toBytes_aBytes _, ?_⟩ | refine ⟨_, by repeat (first | exact toB_nil | apply toB_cons | apply toB_consC _ (by first | omega | (simp only [List.length_cons, List.length_append, List.length_nil, List.length_map, length_aBytes, List.length_replicate, List.length_range]; omega) | fail)), ?_⟩ | refine ⟨_, IntWalk.i64_in _ (by first | omega | (simp only [List.length_cons, List.length_append, List.length_nil, List.length_map, length_aBytes, List.length_replicate, List.length_range]; omega) | fail), ?_⟩ | refine ⟨_, wrap_u8 _, ?_⟩ | refine ⟨_, rfl, ?_⟩ | refine ⟨true, fun b1 hb1 => ?_⟩ | intro b1 hb1 | fail); (try refine Xc_h ?_); (try (conv => whnf)); repeat (first | refine Hid.seq ?_ | (refine Hid.reg ?_; (conv => whnf)) | refine Hid.regD ?_ | refine Hid.cond rfl ?_ | refine Hid.block ?_ | refine Hid.loop ?_ | (refine Hid.exit ?_; (conv => whnf)) | (refine Hid.ret ?_; (conv => whnf)) | (refine Hid.skip ?_; (conv => whnf)) | (refine Hid.label ?_; (conv => whnf)) | refine Hid.range ?_)))
  refine SCall.w (copyCheck_any w0 τ b ad v h.tag hb had) rfl ?_
  rintro r s ⟨rfl, hs⟩ hB
  refine ⟨[(b, [.ptr b 0, v])], (Know.nil _).add (by rw [hs]; exact setBox_same) (by simp), ?_⟩
  have hr2 : RowT s 5 (aBytes bs) v o := by rw [hs]; exact rowT_set hr hob
  have hB1 : ∀ p ∈ [(b, [AV.ptr b 0, v])], o ≠ some p.1 := fun p hp => by obtain rfl := List.mem_singleton.1 hp; exact hob
  clear hr hb
  rcases hk with rfl | ⟨b0, n0, c0, rfl⟩
  all_goals
    (try refine Xc_h ?_); (try (conv => whnf)); repeat (first | refine Hid.seq ?_ | (refine Hid.reg ?_; (conv => whnf)) | refine Hid.regD ?_ | refine Hid.cond rfl ?_ | refine Hid.block ?_ | refine Hid.loop ?_ | (refine Hid.exit ?_; (conv => whnf)) | (refine Hid.ret ?_; (conv => whnf)) | (refine Hid.skip ?_; (conv => whnf)) | (refine Hid.label ?_; (conv => whnf)) | refine Hid.range ?_)
    repeat' (((first | refine SIf.y Ty.mixed (by first | exact rfl | assumption | fail) ?_ | refine SIf.n Ty.mixed (by first | exact rfl | assumption | fail) ?_ | refine SCond.y (by first | exact rfl | assumption | fail) ?_ | refine SCond.n (by first | exact rfl | assumption | fail) ?_ | refine SPick.y (by first | exact rfl | assumption | fail) ?_ | refine SPick.n (by first | exact rfl | assumption | fail) ?_ | refine SPick.b ?_ | refine SPick.i ?_ | fail | refine SLoad.on 0 rfl ?_ | refine SLoad.on 1 rfl ?_ | refine SLoad.on 2 rfl ?_ | refine SLoad.on 3 rfl ?_ | refine SLoad.on 4 rfl ?_ | refine SLoad.on 5 rfl ?_ | refine SStore.on 0 rfl ?_ | refine SStore.on 1 rfl ?_ | refine SStore.on 2 rfl ?_ | refine SStore.on 3 rfl ?_ | refine SStore.on 4 rfl ?_ | refine SStore.on 5 rfl ?_ | refine SBox.f ?_ | refine SCall.p (by fail) ?_ | fail | refine SApp.c rfl rfl (by first | assumption | exact Moves.more (by assumption) (by assumption) | fail) (by first | (simp only [length_aBytes, List.length_append, List.length_cons, List.length_nil, List.length_map, List.length_range]; omega) | omega | fail) fun tk1 σ1 hm => ?_ | refine SReg.t 0 [] (by decide +kernel) ?_ | refine And.intro (by first | omega | (simp only [List.length_cons, List.length_append, List.length_nil, List.length_map, length_aBytes, List.length_replicate, List.length_range]; omega) | fail) ?_ | refine ⟨_, ⟨by first | omega | (simp only [List.length_cons, List.length_append, List.length_nil, List.length_map, length_aBytes, List.length_replicate, List.length_range]; omega) | fail, by first | assumption | exact get_map (by assumption) | exact get_bytes (by assumption) | fail⟩, ?_⟩ | refine ⟨_, toBytes_aBytes _, ?_⟩ | refine ⟨_, by repeat (first | exact toB_nil | apply toB_cons | apply toB_consC _ (by first | omega | (simp only [List.length_cons, List.length_append, List.length_nil, List.length_map, length_aBytes, List.length_replicate, List.length_range]; omega) | fail)), ?_⟩ | refine ⟨_, IntWalk.i64_in _ (by first | omega | (simp only [List.length_cons, List.length_append, List.length_nil, List.length_map, length_aBytes, List.length_replicate, List.length_range]; omega) | fail), ?_⟩ | refine ⟨_, wrap_u8 _, ?_⟩ | refine ⟨_, rfl, ?_⟩ | refine ⟨true, fun b1 hb1 => ?_⟩ | intro b1 hb1 | fail); (try refine Xc_h ?_); (try (conv => whnf)); repeat (first | refine Hid.seq ?_ | (refine Hid.reg ?_; (conv => whnf)) | refine Hid.regD ?_ | refine Hid.cond rfl ?_ | refine Hid.block ?_ | refine Hid.loop ?_ | (refine Hid.exit ?_; (conv => whnf)) | (refine Hid.ret ?_; (conv => whnf)) | (refine Hid.skip ?_; (conv => whnf)) | (refine Hid.label ?_; (conv => whnf)) | refine Hid.range ?_)))
    refine SApp.rowT (bs := aBytes bs) (ys := aBytes s0) rfl hr2 rfl (fun e => h0 (by simpa [aBytes] using e)) hty (by decide) (fun x hx => by rw [bytes_app] at hx; exact bytes_one _ x hx) (by rw [bytes_len, bytes_len]; simpa using hl) hB1 ?_
    intro b' cap' σ' q1 q2 q3 q4
    (try refine Xc_h ?_); (try (conv => whnf)); repeat (first | refine Hid.seq ?_ | (refine Hid.reg ?_; (conv => whnf)) | refine Hid.regD ?_ | refine Hid.cond rfl ?_ | refine Hid.block ?_ | refine Hid.loop ?_ | (refine Hid.exit ?_; (conv => whnf)) | (refine Hid.ret ?_; (conv => whnf)) | (refine Hid.skip ?_; (conv => whnf)) | (refine Hid.label ?_; (conv => whnf)) | refine Hid.range ?_)
    repeat' (((first | refine SIf.y Ty.mixed (by first | exact rfl | assumption | fail) ?_ | refine SIf.n Ty.mixed (by first | exact rfl | assumption | fail) ?_ | refine SCond.y (by first | exact rfl | assumption | fail) ?_ | refine SCond.n (by first | exact rfl | assumption | fail) ?_ | refine SPick.y (by first | exact rfl | assumption | fail) ?_ | refine SPick.n (by first | exact rfl | assumption | fail) ?_ | refine SPick.b ?_ | refine SPick.i ?_ | fail | refine SLoad.on 0 rfl ?_ | refine SLoad.on 1 rfl ?_ | refine SLoad.on 2 rfl ?_ | refine SLoad.on 3 rfl ?_ | refine SLoad.on 4 rfl ?_ | refine SLoad.on 5 rfl ?_ | refine SStore.on 0 rfl ?_ | refine SStore.on 1 rfl ?_ | refine SStore.on 2 rfl ?_ | refine SStore.on 3 rfl ?_ | refine SStore.on 4 rfl ?_ | refine SStore.on 5 rfl ?_ | refine SBox.f ?_ | refine SCall.p (by fail) ?_ | fail | refine SApp.c rfl rfl (by first | assumption | exact Moves.more (by assumption) (by assumption) | fail) (by first | (simp only [length_aBytes, List.length_append, List.length_cons, List.length_nil, List.length_map, List.length_range]; omega) | omega | fail) fun tk1 σ1 hm => ?_ | refine SReg.t 0 [] (by decide +kernel) ?_ | refine And.intro (by first | omega | (simp only [List.length_cons, List.length_append, List.length_nil, List.length_map, length_aBytes, List.length_replicate, List.length_range]; omega) | fail) ?_ | refine ⟨_, ⟨by first | omega | (simp only [List.length_cons, List.length_append, List.length_nil, List.length_map, length_aBytes, List.length_replicate, List.length_range]; omega) | fail, by first | assumption | exact get_map (by assumption) | exact get_bytes (by assumption) | fail⟩, ?_⟩ | refine ⟨_, toBytes_aBytes _, ?_⟩ | refine ⟨_, by repeat (first | exact toB_nil | apply toB_cons | apply toB_consC _ (by first | omega | (simp only [List.length_cons, List.length_append, List.length_nil, List.length_map, length_aBytes, List.length_replicate, List.length_range]; omega) | fail)), ?_⟩ | refine ⟨_, IntWalk.i64_in _ (by first | omega | (simp only [List.length_cons, List.length_append, List.length_nil, List.length_map, length_aBytes, List.length_replicate, List.length_range]; omega) | fail), ?_⟩ | refine ⟨_, wrap_u8 _, ?_⟩ | refine ⟨_, rfl, ?_⟩ | refine ⟨true, fun b1 hb1 => ?_⟩ | intro b1 hb1 | fail); (try refine Xc_h ?_); (try (conv => whnf)); repeat (first | refine Hid.seq ?_ | (refine Hid.reg ?_; (conv => whnf)) | refine Hid.regD ?_ | refine Hid.cond rfl ?_ | refine Hid.block ?_ | refine Hid.loop ?_ | (refine Hid.exit ?_; (conv => whnf)) | (refine Hid.ret ?_; (conv => whnf)) | (refine Hid.skip ?_; (conv => whnf)) | (refine Hid.label ?_; (conv => whnf)) | refine Hid.range ?_)))
    exact .w ⟨rfl, h.wrote ho hob hs q1 q2 q3 q4⟩
theorem string_any (w0 : Base) {σ τ : St} {b : Nat} {bs : List UInt8} (h : Bld σ τ b bs) (hl : bs.length ≤ 9223372036854775807) :
    CallW Tryd.prog w0 27 [.ptr b 0] τ (fun r s => r = .str bs ∧ St.Le σ s) := by
  obtain ⟨ad, v, o, hb, had, hr, ho⟩ := h.here
  have hob := h.ne hr
  rcases hr.go with ⟨h0, rfl, rfl⟩ | ⟨b2, cap, junk, rfl, rfl, htg, hb2, hc, hcl, hc0⟩
  · refine CallW.h (B := [(b, [ad, .nils])]) Ty.tok Ty.mixed Tryd.func27 rfl Tryd.ntmps27 rfl (by simp) (by decide +kernel) ((Know.nil τ).add hb (by simp)) ?_
    obtain rfl : bs = [] := by simpa [aBytes] using h0
    rcases had with rfl | rfl
    all_goals
      (try refine Xc_h ?_); (try (conv => whnf)); repeat (first | refine Hid.seq ?_ | (refine Hid.reg ?_; (conv => whnf)) | refine Hid.regD ?_ | refine Hid.cond rfl ?_ | refine Hid.block ?_ | refine Hid.loop ?_ | (refine Hid.exit ?_; (conv => whnf)) | (refine Hid.ret ?_; (conv => whnf)) | (refine Hid.skip ?_; (conv => whnf)) | (refine Hid.label ?_; (conv => whnf)) | refine Hid.range ?_)
      repeat' (((first | refine SIf.y Ty.mixed (by first | exact rfl | assumption | fail) ?_ | refine SIf.n Ty.mixed (by first | exact rfl | assumption | fail) ?_ | refine SCond.y (by first | exact rfl | assumption | fail) ?_ | refine SCond.n (by first | exact rfl | assumption | fail) ?_ | refine SPick.y (by first | exact rfl | assumption | fail) ?_ | refine SPick.n (by first | exact rfl | assumption | fail) ?_ | refine SPick.b ?_ | refine SPick.i ?_ | fail | refine SLoad.on 0 rfl ?_ | refine SLoad.on 1 rfl ?_ | refine SLoad.on 2 rfl ?_ | refine SLoad.on 3 rfl ?_ | refine SLoad.on 4 rfl ?_ | refine SLoad.on 5 rfl ?_ | refine SStore.on 0 rfl ?_ | refine SStore.on 1 rfl ?_ | refine SStore.on 2 rfl ?_ | refine SStore.on 3 rfl ?_ | refine SStore.on 4 rfl ?_ | refine SStore.on 5 rfl ?_ | refine SBox.f ?_ | refine SCall.p (by fail) ?_ | fail | refine SApp.c rfl rfl (by first | assumption | exact Moves.more (by assumption) (by assumption) | fail) (by first | (simp only [length_aBytes, List.length_append, List.length_cons, List.length_nil, List.length_map, List.length_range]; omega) | omega | fail) fun tk1 σ1 hm => ?_ | refine SReg.d [0, 1, 2, 5, 6, 7, 3, 4, 8, 9, 10, 11] [0, 0, 0, 1, 0, 0, 0, 0, 1, 0, 2, 0] (by decide +kernel) ?_; (try refine Xc_h ?_); (try (conv => whnf)); repeat (first | refine Hid.seq ?_ | (refine Hid.reg ?_; (conv => whnf)) | refine Hid.regD ?_ | refine Hid.cond rfl ?_ | refine Hid.block ?_ | refine Hid.loop ?_ | (refine Hid.exit ?_; (conv => whnf)) | (refine Hid.ret ?_; (conv => whnf)) | (refine Hid.skip ?_; (conv => whnf)) | (refine Hid.label ?_; (conv => whnf)) | refine Hid.range ?_) | refine And.intro (by first | omega | (simp only [List.length_cons, List.length_append, List.length_nil, List.length_map, length_aBytes, List.length_replicate, List.length_range]; omega) | fail) ?_ | refine ⟨_, ⟨by first | omega | (simp only [List.length_cons, List.length_append, List.length_nil, List.length_map, length_aBytes, List.length_replicate, List.length_range]; omega) | fail, by first | assumption | exact get_map (by assumption) | exact get_bytes (by assumption) | fail⟩, ?_⟩ | refine ⟨_, toBytes_aBytes _, ?_⟩ | refine ⟨_, by repeat (first | exact toB_nil | apply toB_cons | apply toB_consC _ (by first | omega | (simp only [List.length_cons, List.length_append, List.length_nil, List.length_map, length_aBytes, List.length_replicate, List.length_range]; omega) | fail)), ?_⟩ | refine ⟨_, IntWalk.i64_in _ (by first | omega | (simp only [List.length_cons, List.length_append, List.length_nil, List.length_map, length_aBytes, List.length_replicate, List.length_range]; omega) | fail), ?_⟩ | refine ⟨_, wrap_u8 _, ?_⟩ | refine ⟨_, rfl, ?_⟩ | refine ⟨true, fun b1 hb1 => ?_⟩ | intro b1 hb1 | fail); (try refine Xc_h ?_); (try (conv => whnf)); repeat (first | refine Hid.seq ?_ | (refine Hid.reg ?_; (conv => whnf)) | refine Hid.regD ?_ | refine Hid.cond rfl ?_ | refine Hid.block ?_ | refine Hid.loop ?_ | (refine Hid.exit ?_; (conv => whnf)) | (refine Hid.ret ?_; (conv => whnf)) | (refine Hid.skip ?_; (conv => whnf)) | (refine Hid.label ?_; (conv => whnf)) | refine Hid.range ?_)))
      refine SOper.uStr0 (.inl rfl) rfl ?_
      (try refine Xc_h ?_); (try (conv => whnf)); repeat (first | refine Hid.seq ?_ | (refine Hid.reg ?_; (conv => whnf)) | refine Hid.regD ?_ | refine Hid.cond rfl ?_ | refine Hid.block ?_ | refine Hid.loop ?_ | (refine Hid.exit ?_; (conv => whnf)) | (refine Hid.ret ?_; (conv => whnf)) | (refine Hid.skip ?_; (conv => whnf)) | (refine Hid.label ?_; (conv => whnf)) | refine Hid.range ?_)
      repeat' (((first | refine SIf.y Ty.mixed (by first | exact rfl | assumption | fail) ?_ | refine SIf.n Ty.mixed (by first | exact rfl | assumption | fail) ?_ | refine SCond.y (by first | exact rfl | assumption | fail) ?_ | refine SCond.n (by first | exact rfl | assumption | fail) ?_ | refine SPick.y (by first | exact rfl | assumption | fail) ?_ | refine SPick.n (by first | exact rfl | assumption | fail) ?_ | refine SPick.b ?_ | refine SPick.i ?_ | fail | refine SLoad.on 0 rfl ?_ | refine SLoad.on 1 rfl ?_ | refine SLoad.on 2 rfl ?_ | refine SLoad.on 3 rfl ?_ | refine SLoad.on 4 rfl ?_ | refine SLoad.on 5 rfl ?_ | refine SStore.on 0 rfl ?_ | refine SStore.on 1 rfl ?_ | refine SStore.on 2 rfl ?_ | refine SStore.on 3 rfl ?_ | refine SStore.on 4 rfl ?_ | refine SStore.on 5 rfl ?_ | refine SBox.f ?_ | refine SCall.p (by fail) ?_ | fail | refine SApp.c rfl rfl (by first | assumption | exact Moves.more (by assumption) (by assumption) | fail) (by first | (simp only [length_aBytes, List.length_append, List.length_cons, List.length_nil, List.length_map, List.length_range]; omega) | omega | fail) fun tk1 σ1 hm => ?_ | refine SReg.d [0, 1, 2, 5, 6, 7, 3, 4, 8, 9, 10, 11] [0, 0, 0, 1, 0, 0, 0, 0, 1, 0, 2, 0] (by decide +kernel) ?_; (try refine Xc_h ?_); (try (conv => whnf)); repeat (first | refine Hid.seq ?_ | (refine Hid.reg ?_; (conv => whnf)) | refine Hid.regD ?_ | refine Hid.cond rfl ?_ | refine Hid.block ?_ | refine Hid.loop ?_ | (refine Hid.exit ?_; (conv => whnf)) | (refine Hid.ret ?_; (conv => whnf)) | (refine Hid.skip ?_; (conv => whnf)) | (refine Hid.label ?_; (conv => whnf)) | refine Hid.range ?_) | refine And.intro (by first | omega | (simp only [List.length_cons, List.length_append, List.length_nil, List.length_map, length_aBytes, List.length_replicate, List.length_range]; omega) | fail) ?_ | refine ⟨_, ⟨by first | omega | (simp only [List.length_cons, List.length_append, List.length_nil, List.length_map, length_aBytes, List.length_replicate, List.length_range]; omega) | fail, by first | assumption | exact get_map (by assumption) | exact get_bytes (by assumption) | fail⟩, ?_⟩ | refine ⟨_, toBytes_aBytes _, ?_⟩ | refine ⟨_, by repeat (first | exact toB_nil | apply toB_cons | apply toB_consC _ (by first | omega | (simp only [List.length_cons, List.length_append, List.length_nil, List.length_map, length_aBytes, List.length_replicate, List.length_range]; omega) | fail)), ?_⟩ | refine ⟨_, IntWalk.i64_in _ (by first | omega | (simp only [List.length_cons, List.length_append, List.length_nil, List.length_map, length_aBytes, List.length_replicate, List.length_range]; omega) | fail), ?_⟩ | refine ⟨_, wrap_u8 _, ?_⟩ | refine ⟨_, rfl, ?_⟩ | refine ⟨true, fun b1 hb1 => ?_⟩ | intro b1 hb1 | fail); (try refine Xc_h ?_); (try (conv => whnf)); repeat (first | refine Hid.seq ?_ | (refine Hid.reg ?_; (conv => whnf)) | refine Hid.regD ?_ | refine Hid.cond rfl ?_ | refine Hid.block ?_ | refine Hid.loop ?_ | (refine Hid.exit ?_; (conv => whnf)) | (refine Hid.ret ?_; (conv => whnf)) | (refine Hid.skip ?_; (conv => whnf)) | (refine Hid.label ?_; (conv => whnf)) | refine Hid.range ?_)))
      exact .w ⟨rfl, h.le⟩
  · have hne : b2 ≠ b := fun e => hob (by rw [e])
    refine CallW.h (B := [(b2, aBytes bs ++ junk), (b, [ad, .msl b2 0 (aBytes bs).length cap])]) Ty.tok Ty.mixed Tryd.func27 rfl Tryd.ntmps27 rfl (by simp) (by decide +kernel) (((Know.nil τ).add hb (by simp)).add hb2 (by simpa using hne)) ?_
    have hlen := bytes_len bs
    by_cases he : bs = []
    · subst he
      rcases had with rfl | rfl
      all_goals
        (try refine Xc_h ?_); (try (conv => whnf)); repeat (first | refine Hid.seq ?_ | (refine Hid.reg ?_; (conv => whnf)) | refine Hid.regD ?_ | refine Hid.cond rfl ?_ | refine Hid.block ?_ | refine Hid.loop ?_ | (refine Hid.exit ?_; (conv => whnf)) | (refine Hid.ret ?_; (conv => whnf)) | (refine Hid.skip ?_; (conv => whnf)) | (refine Hid.label ?_; (conv => whnf)) | refine Hid.range ?_)
        repeat' (((first | refine SIf.y Ty.mixed (by first | exact rfl | assumption | fail) ?_ | refine SIf.n Ty.mixed (by first | exact rfl | assumption | fail) ?_ | refine SCond.y (by first | exact rfl | assumption | fail) ?_ | refine SCond.n (by first | exact rfl | assumption | fail) ?_ | refine SPick.y (by first | exact rfl | assumption | fail) ?_ | refine SPick.n (by first | exact rfl | assumption | fail) ?_ | refine SPick.b ?_ | refine SPick.i ?_ | fail | refine SLoad.on 0 rfl ?_ | refine SLoad.on 1 rfl ?_ | refine SLoad.on 2 rfl ?_ | refine SLoad.on 3 rfl ?_ | refine SLoad.on 4 rfl ?_ | refine SLoad.on 5 rfl ?_ | refine SStore.on 0 rfl ?_ | refine SStore.on 1 rfl ?_ | refine SStore.on 2 rfl ?_ | refine SStore.on 3 rfl ?_ | refine SStore.on 4 rfl ?_ | refine SStore.on 5 rfl ?_ | refine SBox.f ?_ | refine SCall.p (by fail) ?_ | fail | refine SApp.c rfl rfl (by first | assumption | exact Moves.more (by assumption) (by assumption) | fail) (by first | (simp only [length_aBytes, List.length_append, List.length_cons, List.length_nil, List.length_map, List.length_range]; omega) | omega | fail) fun tk1 σ1 hm => ?_ | refine SReg.d [0, 1, 2, 5, 6, 7, 3, 4, 8, 9, 10, 11] [0, 0, 0, 1, 0, 0, 0, 0, 1, 0, 2, 0] (by decide +kernel) ?_; (try refine Xc_h ?_); (try (conv => whnf)); repeat (first | refine Hid.seq ?_ | (refine Hid.reg ?_; (conv => whnf)) | refine Hid.regD ?_ | refine Hid.cond rfl ?_ | refine Hid.block ?_ | refine Hid.loop ?_ | (refine Hid.exit ?_; (conv => whnf)) | (refine Hid.ret ?_; (conv => whnf)) | (refine Hid.skip ?_; (conv => whnf)) | (refine Hid.label ?_; (conv => whnf)) | refine Hid.range ?_) | refine And.intro (by first | omega | (simp only [List.length_cons, List.length_append, List.length_nil, List.length_map, length_aBytes, List.length_replicate, List.length_range]; omega) | fail) ?_ | refine ⟨_, ⟨by first | omega | (simp only [List.length_cons, List.length_append, List.length_nil, List.length_map, length_aBytes, List.length_replicate, List.length_range]; omega) | fail, by first | assumption | exact get_map (by assumption) | exact get_bytes (by assumption) | fail⟩, ?_⟩ | refine ⟨_, toBytes_aBytes _, ?_⟩ | refine ⟨_, by repeat (first | exact toB_nil | apply toB_cons | apply toB_consC _ (by first | omega | (simp only [List.length_cons, List.length_append, List.length_nil, List.length_map, length_aBytes, List.length_replicate, List.length_range]; omega) | fail)), ?_⟩ | refine ⟨_, IntWalk.i64_in _ (by first | omega | (simp only [List.length_cons, List.length_append, List.length_nil, List.length_map, length_aBytes, List.length_replicate, List.length_range]; omega) | fail), ?_⟩ | refine ⟨_, wrap_u8 _, ?_⟩ | refine ⟨_, rfl, ?_⟩ | refine ⟨true, fun b1 hb1 => ?_⟩ | intro b1 hb1 | fail); (try refine Xc_h ?_); (try (conv => whnf)); repeat (first | refine Hid.seq ?_ | (refine Hid.reg ?_; (conv => whnf)) | refine Hid.regD ?_ | refine Hid.cond rfl ?_ | refine Hid.block ?_ | refine Hid.loop ?_ | (refine Hid.exit ?_; (conv => whnf)) | (refine Hid.ret ?_; (conv => whnf)) | (refine Hid.skip ?_; (conv => whnf)) | (refine Hid.label ?_; (conv => whnf)) | refine Hid.range ?_)))
        refine SOper.uStr0 (.inr ⟨_, _, rfl⟩) rfl ?_
        (try refine Xc_h ?_); (try (conv => whnf)); repeat (first | refine Hid.seq ?_ | (refine Hid.reg ?_; (conv => whnf)) | refine Hid.regD ?_ | refine Hid.cond rfl ?_ | refine Hid.block ?_ | refine Hid.loop ?_ | (refine Hid.exit ?_; (conv => whnf)) | (refine Hid.ret ?_; (conv => whnf)) | (refine Hid.skip ?_; (conv => whnf)) | (refine Hid.label ?_; (conv => whnf)) | refine Hid.range ?_)
        repeat' (((first | refine SIf.y Ty.mixed (by first | exact rfl | assumption | fail) ?_ | refine SIf.n Ty.mixed (by first | exact rfl | assumption | fail) ?_ | refine SCond.y (by first | exact rfl | assumption | fail) ?_ | refine SCond.n (by first | exact rfl | assumption | fail) ?_ | refine SPick.y (by first | exact rfl | assumption | fail) ?_ | refine SPick.n (by first | exact rfl | assumption | fail) ?_ | refine SPick.b ?_ | refine SPick.i ?_ | fail | refine SLoad.on 0 rfl ?_ | refine SLoad.on 1 rfl ?_ | refine SLoad.on 2 rfl ?_ | refine SLoad.on 3 rfl ?_ | refine SLoad.on 4 rfl ?_ | refine SLoad.on 5 rfl ?_ | refine SStore.on 0 rfl ?_ | refine SStore.on 1 rfl ?_ | refine SStore.on 2 rfl ?_ | refine SStore.on 3 rfl ?_ | refine SStore.on 4 rfl ?_ | refine SStore.on 5 rfl ?_ | refine SBox.f ?_ | refine SCall.p (by fail) ?_ | fail | refine SApp.c rfl rfl (by first | assumption | exact Moves.more (by assumption) (by assumption) | fail) (by first | (simp only [length_aBytes, List.length_append, List.length_cons, List.length_nil, List.length_map, List.length_range]; omega) | omega | fail) fun tk1 σ1 hm => ?_ | refine SReg.d [0, 1, 2, 5, 6, 7, 3, 4, 8, 9, 10, 11] [0, 0, 0, 1, 0, 0, 0, 0, 1, 0, 2, 0] (by decide +kernel) ?_; (try refine Xc_h ?_); (try (conv => whnf)); repeat (first | refine Hid.seq ?_ | (refine Hid.reg ?_; (conv => whnf)) | refine Hid.regD ?_ | refine Hid.cond rfl ?_ | refine Hid.block ?_ | refine Hid.loop ?_ | (refine Hid.exit ?_; (conv => whnf)) | (refine Hid.ret ?_; (conv => whnf)) | (refine Hid.skip ?_; (conv => whnf)) | (refine Hid.label ?_; (conv => whnf)) | refine Hid.range ?_) | refine And.intro (by first | omega | (simp only [List.length_cons, List.length_append, List.length_nil, List.length_map, length_aBytes, List.length_replicate, List.length_range]; omega) | fail) ?_ | refine ⟨_, ⟨by first | omega | (simp only [List.length_cons, List.length_append, List.length_nil, List.length_map, length_aBytes, List.length_replicate, List.length_range]; omega) | fail, by first | assumption | exact get_map (by assumption) | exact get_bytes (by assumption) | fail⟩, ?_⟩ | refine ⟨_, toBytes_aBytes _, ?_⟩ | refine ⟨_, by repeat (first | exact toB_nil | apply toB_cons | apply toB_consC _ (by first | omega | (simp only [List.length_cons, List.length_append, List.length_nil, List.length_map, length_aBytes, List.length_replicate, List.length_range]; omega) | fail)), ?_⟩ | refine ⟨_, IntWalk.i64_in _ (by first | omega | (simp only [List.length_cons, List.length_append, List.length_nil, List.length_map, length_aBytes, List.length_replicate, List.length_range]; omega) | fail), ?_⟩ | refine ⟨_, wrap_u8 _, ?_⟩ | refine ⟨_, rfl, ?_⟩ | refine ⟨true, fun b1 hb1 => ?_⟩ | intro b1 hb1 | fail); (try refine Xc_h ?_); (try (conv => whnf)); repeat (first | refine Hid.seq ?_ | (refine Hid.reg ?_; (conv => whnf)) | refine Hid.regD ?_ | refine Hid.cond rfl ?_ | refine Hid.block ?_ | refine Hid.loop ?_ | (refine Hid.exit ?_; (conv => whnf)) | (refine Hid.ret ?_; (conv => whnf)) | (refine Hid.skip ?_; (conv => whnf)) | (refine Hid.label ?_; (conv => whnf)) | refine Hid.range ?_)))
        exact .w ⟨rfl, h.le⟩
    · have hle : St.Le σ (τ.del b2) := le_del h.le (ho b2 rfl)
      rcases had with rfl | rfl
      all_goals
        (try refine Xc_h ?_); (try (conv => whnf)); repeat (first | refine Hid.seq ?_ | (refine Hid.reg ?_; (conv => whnf)) | refine Hid.regD ?_ | refine Hid.cond rfl ?_ | refine Hid.block ?_ | refine Hid.loop ?_ | (refine Hid.exit ?_; (conv => whnf)) | (refine Hid.ret ?_; (conv => whnf)) | (refine Hid.skip ?_; (conv => whnf)) | (refine Hid.label ?_; (conv => whnf)) | refine Hid.range ?_)
        repeat' (((first | refine SIf.y Ty.mixed (by first | exact rfl | assumption | fail) ?_ | refine SIf.n Ty.mixed (by first | exact rfl | assumption | fail) ?_ | refine SCond.y (by first | exact rfl | assumption | fail) ?_ | refine SCond.n (by first | exact rfl | assumption | fail) ?_ | refine SPick.y (by first | exact rfl | assumption | fail) ?_ | refine SPick.n (by first | exact rfl | assumption | fail) ?_ | refine SPick.b ?_ | refine SPick.i ?_ | fail | refine SLoad.on 0 rfl ?_ | refine SLoad.on 1 rfl ?_ | refine SLoad.on 2 rfl ?_ | refine SLoad.on 3 rfl ?_ | refine SLoad.on 4 rfl ?_ | refine SLoad.on 5 rfl ?_ | refine SStore.on 0 rfl ?_ | refine SStore.on 1 rfl ?_ | refine SStore.on 2 rfl ?_ | refine SStore.on 3 rfl ?_ | refine SStore.on 4 rfl ?_ | refine SStore.on 5 rfl ?_ | refine SBox.f ?_ | refine SCall.p (by fail) ?_ | fail | refine SApp.c rfl rfl (by first | assumption | exact Moves.more (by assumption) (by assumption) | fail) (by first | (simp only [length_aBytes, List.length_append, List.length_cons, List.length_nil, List.length_map, List.length_range]; omega) | omega | fail) fun tk1 σ1 hm => ?_ | refine SReg.d [0, 1, 2, 5, 6, 7, 3, 4, 8, 9, 10, 11] [0, 0, 0, 1, 0, 0, 0, 0, 1, 0, 2, 0] (by decide +kernel) ?_; (try refine Xc_h ?_); (try (conv => whnf)); repeat (first | refine Hid.seq ?_ | (refine Hid.reg ?_; (conv => whnf)) | refine Hid.regD ?_ | refine Hid.cond rfl ?_ | refine Hid.block ?_ | refine Hid.loop ?_ | (refine Hid.exit ?_; (conv => whnf)) | (refine Hid.ret ?_; (conv => whnf)) | (refine Hid.skip ?_; (conv => whnf)) | (refine Hid.label ?_; (conv => whnf)) | refine Hid.range ?_) | refine And.intro (by first | omega | (simp only [List.length_cons, List.length_append, List.length_nil, List.length_map, length_aBytes, List.length_replicate, List.length_range]; omega) | fail) ?_ | refine ⟨_, ⟨by first | omega | (simp only [List.length_cons, List.length_append, List.length_nil, List.length_map, length_aBytes, List.length_replicate, List.length_range]; omega) | fail, by first | assumption | exact get_map (by assumption) | exact get_bytes (by assumption) | fail⟩, ?_⟩ | refine ⟨_, toBytes_aBytes _, ?_⟩ | refine ⟨_, by repeat (first | exact toB_nil | apply toB_cons | apply toB_consC _ (by first | omega | (simp only [List.length_cons, List.length_append, List.length_nil, List.length_map, length_aBytes, List.length_replicate, List.length_range]; omega) | fail)), ?_⟩ | refine ⟨_, IntWalk.i64_in _ (by first | omega | (simp only [List.length_cons, List.length_append, List.length_nil, List.length_map, length_aBytes, List.length_replicate, List.length_range]; omega) | fail), ?_⟩ | refine ⟨_, wrap_u8 _, ?_⟩ | refine ⟨_, rfl, ?_⟩ | refine ⟨true, fun b1 hb1 => ?_⟩ | intro b1 hb1 | fail); (try refine Xc_h ?_); (try (conv => whnf)); repeat (first | refine Hid.seq ?_ | (refine Hid.reg ?_; (conv => whnf)) | refine Hid.regD ?_ | refine Hid.cond rfl ?_ | refine Hid.block ?_ | refine Hid.loop ?_ | (refine Hid.exit ?_; (conv => whnf)) | (refine Hid.ret ?_; (conv => whnf)) | (refine Hid.skip ?_; (conv => whnf)) | (refine Hid.label ?_; (conv => whnf)) | refine Hid.range ?_)))
        refine SOper.uStr (l := bs) 0 rfl (by show AV.int .i64 ((aBytes bs).length : Nat) = _; rw [hlen]) rfl htg Tryd.underlying82 (by kernel_rfl) (by rw [← hlen, List.take_left']; rfl) he hl ?_
        (try refine Xc_h ?_); (try (conv => whnf)); repeat (first | refine Hid.seq ?_ | (refine Hid.reg ?_; (conv => whnf)) | refine Hid.regD ?_ | refine Hid.cond rfl ?_ | refine Hid.block ?_ | refine Hid.loop ?_ | (refine Hid.exit ?_; (conv => whnf)) | (refine Hid.ret ?_; (conv => whnf)) | (refine Hid.skip ?_; (conv => whnf)) | (refine Hid.label ?_; (conv => whnf)) | refine Hid.range ?_)
        repeat' (((first | refine SIf.y Ty.mixed (by first | exact rfl | assumption | fail) ?_ | refine SIf.n Ty.mixed (by first | exact rfl | assumption | fail) ?_ | refine SCond.y (by first | exact rfl | assumption | fail) ?_ | refine SCond.n (by first | exact rfl | assumption | fail) ?_ | refine SPick.y (by first | exact rfl | assumption | fail) ?_ | refine SPick.n (by first | exact rfl | assumption | fail) ?_ | refine SPick.b ?_ | refine SPick.i ?_ | fail | refine SLoad.on 0 rfl ?_ | refine SLoad.on 1 rfl ?_ | refine SLoad.on 2 rfl ?_ | refine SLoad.on 3 rfl ?_ | refine SLoad.on 4 rfl ?_ | refine SLoad.on 5 rfl ?_ | refine SStore.on 0 rfl ?_ | refine SStore.on 1 rfl ?_ | refine SStore.on 2 rfl ?_ | refine SStore.on 3 rfl ?_ | refine SStore.on 4 rfl ?_ | refine SStore.on 5 rfl ?_ | refine SBox.f ?_ | refine SCall.p (by fail) ?_ | fail | refine SApp.c rfl rfl (by first | assumption | exact Moves.more (by assumption) (by assumption) | fail) (by first | (simp only [length_aBytes, List.length_append, List.length_cons, List.length_nil, List.length_map, List.length_range]; omega) | omega | fail) fun tk1 σ1 hm => ?_ | refine SReg.d [0, 1, 2, 5, 6, 7, 3, 4, 8, 9, 10, 11] [0, 0, 0, 1, 0, 0, 0, 0, 1, 0, 2, 0] (by decide +kernel) ?_; (try refine Xc_h ?_); (try (conv => whnf)); repeat (first | refine Hid.seq ?_ | (refine Hid.reg ?_; (conv => whnf)) | refine Hid.regD ?_ | refine Hid.cond rfl ?_ | refine Hid.block ?_ | refine Hid.loop ?_ | (refine Hid.exit ?_; (conv => whnf)) | (refine Hid.ret ?_; (conv => whnf)) | (refine Hid.skip ?_; (conv => whnf)) | (refine Hid.label ?_; (conv => whnf)) | refine Hid.range ?_) | refine And.intro (by first | omega | (simp only [List.length_cons, List.length_append, List.length_nil, List.length_map, length_aBytes, List.length_replicate, List.length_range]; omega) | fail) ?_ | refine ⟨_, ⟨by first | omega | (simp only [List.length_cons, List.length_append, List.length_nil, List.length_map, length_aBytes, List.length_replicate, List.length_range]; omega) | fail, by first | assumption | exact get_map (by assumption) | exact get_bytes (by assumption) | fail⟩, ?_⟩ | refine ⟨_, toBytes_aBytes _, ?_⟩ | refine ⟨_, by repeat (first | exact toB_nil | apply toB_cons | apply toB_consC _ (by first | omega | (simp only [List.length_cons, List.length_append, List.length_nil, List.length_map, length_aBytes, List.length_replicate, List.length_range]; omega) | fail)), ?_⟩ | refine ⟨_, IntWalk.i64_in _ (by first | omega | (simp only [List.length_cons, List.length_append, List.length_nil, List.length_map, length_aBytes, List.length_replicate, List.length_range]; omega) | fail), ?_⟩ | refine ⟨_, wrap_u8 _, ?_⟩ | refine ⟨_, rfl, ?_⟩ | refine ⟨true, fun b1 hb1 => ?_⟩ | intro b1 hb1 | fail); (try refine Xc_h ?_); (try (conv => whnf)); repeat (first | refine Hid.seq ?_ | (refine Hid.reg ?_; (conv => whnf)) | refine Hid.regD ?_ | refine Hid.cond rfl ?_ | refine Hid.block ?_ | refine Hid.loop ?_ | (refine Hid.exit ?_; (conv => whnf)) | (refine Hid.ret ?_; (conv => whnf)) | (refine Hid.skip ?_; (conv => whnf)) | (refine Hid.label ?_; (conv => whnf)) | refine Hid.range ?_)))
        exact .w ⟨rfl, hle⟩
end Go.Proofs.YtjcikceophcooaaDoor
end
section
set_option linter.unusedVariables false
set_option linter.unusedSimpArgs false
set_option maxRecDepth 100000
set_option maxHeartbeats 1000000
namespace Go.Proofs.YtjcikceophcooaaDoor
open Go.Al Go.RowKit
def digitsL : List UInt8 := [48, 49, 50, 51, 52, 53, 54, 55, 56, 57, 97, 98, 99, 100, 101, 102]
def hexD (n : Nat) : UInt8 := digitsL.getD n 0
def plainB (c : UInt8) : Bool := decide (32 < c.toNat) && (decide (c.toNat ≤ 126) && !decide (c = 37))
def hexT (c : UInt8) : List UInt8 := [hexD (c.toNat / 16), hexD (c.toNat % 16)]
def quo1 (c : UInt8) : List UInt8 := if plainB c = true then [c] else 37 :: hexT c
def quoteT (s : List UInt8) : List UInt8 := if s = [] then [37] else s.flatMap quo1
theorem hexD_get {n : Nat} (h : n < 16) : digitsL[n]? = some (hexD n) := by
  have hl : n < digitsL.length := h
  rw [List.getElem?_eq_getElem hl, hexD, List.getD_eq_getElem?_getD, List.getElem?_eq_getElem hl]; rfl
theorem hex_and (c : UInt8) : IntKind.u8.wrap ((BitVec.ofInt 8 (c.toNat : Int) &&& BitVec.ofInt 8 15).toNat : Int) = ((c.toNat % 16 : Nat) : Int) := by
  have h : ∀ n : Fin 256, IntKind.u8.wrap ((BitVec.ofInt 8 ((n.val : Nat) : Int) &&& BitVec.ofInt 8 15).toNat : Int) = ((n.val % 16 : Nat) : Int) := by decide +kernel
  exact h ⟨c.toNat, c.toNat_lt⟩
theorem hex_shr (c : UInt8) : ((c.toNat : Int)).fdiv (2 ^ (min (4 : Int).toNat IntKind.u8.bits)) = ((c.toNat / 16 : Nat) : Int) := by
  have : (2 : Int) ^ (min (4 : Int).toNat IntKind.u8.bits) = 16 := by decide
  rw [this, Int.fdiv_eq_ediv_of_nonneg _ (by decide)]
  simp
theorem quo1_len (c : UInt8) : (quo1 c).length ≤ 3 ∧ 1 ≤ (quo1 c).length := by
  unfold quo1; split <;> simp [hexT]
theorem quotes_len : ∀ s : List UInt8, (s.flatMap quo1).length ≤ 3 * s.length
  | [] => by simp
  | c :: s => by
    have := quo1_len c
    have := quotes_len s
    rw [List.flatMap_cons, List.length_append, List.length_cons]; omega
theorem quoteT_len (s : List UInt8) : (quoteT s).length ≤ 3 * s.length + 1 := by
  unfold quoteT
  split
  · simp
  · have := quotes_len s; omega
theorem plain_any (w0 : Base) (c : UInt8) : CallP Tryd.prog w0 23 [.int .u8 c.toNat] (.bool (plainB c)) := by
  refine CallP.h Ty.tok Ty.mixed Tryd.func23 rfl Tryd.ntmps23 rfl (by simp) (by decide +kernel) fun σ => ?_
  have e37 : decide ((c.toNat : Int) = 37) = decide (c = 37) := decide_eq_decide.2 ⟨fun h => UInt8.toNat_inj.1 (by rw [show (37 : UInt8).toNat = 37 from rfl]; omega), fun h => by rw [h]; rfl⟩
  have e32 : decide (32 < c.toNat) = decide ((32 : Int) < (c.toNat : Int)) := decide_eq_decide.2 (by omega)
  have e126 : decide (c.toNat ≤ 126) = decide ((c.toNat : Int) ≤ 126) := decide_eq_decide.2 (by omega)
  (conv => whnf); refine Hid.seq ?_; refine Hid.reg ?_; (conv => whnf); refine Hid.seq ?_; refine Hid.reg ?_; (conv => whnf); refine SCond.mk (fun hc => ?_) (fun hc => ?_); (conv => whnf); rotate_left; (conv => whnf)
  rotate_right
  refine SCond.y (by assumption) ?_; (conv => whnf); refine SPick.y (by assumption) ?_; (conv => whnf); refine SCond.mk (fun hc => ?_) (fun hc => ?_); (conv => whnf); rotate_left; (conv => whnf)
  rotate_right
  refine SCond.y (by assumption) ?_; (conv => whnf); refine SPick.y (by assumption) ?_; (conv => whnf); refine Hid.ret ?_; (conv => whnf); rotate_left; refine SCond.n (by assumption) ?_; (conv => whnf); refine SPick.n (by assumption) ?_; (conv => whnf); refine Hid.ret ?_; (conv => whnf); rotate_left; refine SCond.n (by assumption) ?_; (conv => whnf); refine SPick.n (by assumption) ?_
  (conv => whnf); refine SCond.n (by exact rfl) ?_; (conv => whnf); refine SCond.n (by exact rfl) ?_; (conv => whnf); refine SPick.n (by exact rfl) ?_; (conv => whnf); refine Hid.ret ?_; (conv => whnf); rotate_left
  all_goals
    refine .p (.refl _) (congrArg AV.bool ?_)
    rw [plainB, ← e37, e32, e126]
    clear e37 e32 e126
    simp_all
    try omega
theorem hex_any (w0 : Base) (c : UInt8) : CallP Tryd.prog w0 26 [.int .u8 c.toNat] (.str (hexT c)) := by
  refine CallP.h Ty.tok Ty.mixed Tryd.func26 rfl Tryd.ntmps26 rfl (by simp) (by decide +kernel) fun σ => ?_
  have hc := c.toNat_lt
  have g1 := hexD_get (n := c.toNat / 16) (by omega)
  have g2 := hexD_get (n := c.toNat % 16) (by omega)
  have a1 := hex_shr c
  have a2 := hex_and c
  rw [hexT]
  generalize hexD (c.toNat / 16) = d1 at *
  generalize hexD (c.toNat % 16) = d2 at *
  (conv => whnf); refine Hid.seq ?_; refine Hid.reg ?_; (conv => whnf); refine Hid.seq ?_; refine Hid.regD ?_; refine SReg.t 0 [] (by decide +kernel) ?_; (conv => whnf); refine And.intro (by omega) ?_; (conv => whnf); refine ⟨_, a1, ?_⟩; (conv => whnf)
  refine ⟨_, ⟨by omega, g1⟩, ?_⟩
  (conv => whnf); refine ⟨_, a2, ?_⟩; (conv => whnf)
  refine ⟨_, ⟨by omega, g2⟩, ?_⟩
  (conv => whnf); refine ⟨_, toBytes_aBytes [_, _], ?_⟩; (conv => whnf); refine Hid.ret ?_; (conv => whnf); exact .p (.refl _) rfl
theorem quote_any (w0 : Base) (s : List UInt8) (hs : s.length ≤ 1000000000000) : CallP Tryd.prog w0 10 [.str s] (.str (quoteT s)) := by
  refine CallP.h Ty.tok Ty.mixed Tryd.func10 rfl Tryd.ntmps10 rfl (by simp) (by decide +kernel) fun σ => ?_
  by_cases h0 : s = []
  · subst h0
    (conv => whnf); refine Hid.seq ?_; refine Hid.reg ?_; (conv => whnf); refine Hid.seq ?_; refine Hid.seq ?_; refine Hid.reg ?_; (conv => whnf); refine Hid.cond rfl ?_; refine SIf.y Ty.mixed (by exact rfl) ?_; refine Xc_h ?_; (conv => whnf); refine Hid.seq ?_; refine Hid.reg ?_; (conv => whnf); refine Hid.ret ?_; (conv => whnf); exact .p (.refl _) rfl
  rw [quoteT, if_neg h0]
  (conv => whnf); refine Hid.seq ?_; refine Hid.reg ?_; (conv => whnf); refine Hid.seq ?_; refine Hid.seq ?_; refine Hid.reg ?_; (conv => whnf); refine Hid.cond rfl ?_
  skip
  refine SIf.n Ty.mixed (decide_eq_false h0) ?_; refine Xc_h ?_; (conv => whnf); refine Hid.skip ?_; (conv => whnf); refine Hid.seq ?_; refine Hid.reg ?_; (conv => whnf)
  refine ⟨by decide, fun b3 ht3 hb3 => ?_⟩
  (conv => whnf); refine Hid.seq ?_; refine Hid.seq ?_; refine Hid.reg ?_; (conv => whnf); refine And.intro (by omega) ?_; (conv => whnf); refine Hid.block ?_; refine Hid.loop ?_
  have hml : (aBytes s).length = s.length := bytes_len s
  refine SLoop.by Ty.mixed (fun i : Nat => s.length - i) (fun i => [(0, .str s), (3, .ptr b3 0), (9, .slc 1 (aBytes s) .no), (10, .int .i64 (aBytes s).length), (11, .int .i64 i)]) (fun _ => []) (fun i τ => i ≤ s.length ∧ Bld σ τ b3 ((s.take i).flatMap quo1)) 0 ⟨by repeat (first | exact trivial | refine ⟨by first | trivial | exact Weak.refl _ | exact Weak.tok _ _ _ | exact Weak.of_eq (congrArg (AV.int _) (by omega)) | exact Weak.of_eq (congrArg AV.bool (by fail)) | exact Weak.nils _ _ (.inr rfl), ?_⟩), .none _, Nat.zero_le _, Bld.start ht3 hb3⟩ ?_
  rintro i τ ⟨hi, hb⟩
  by_cases hlt : i < s.length
  · have gc : (aBytes s)[i]? = some (.int .u8 s[i].toNat) := by simp [aBytes, aByte, hlt]
    have htk : (s.take (i + 1)).flatMap quo1 = (s.take i).flatMap quo1 ++ quo1 s[i] := by
      rw [List.take_succ_eq_append_getElem hlt, List.flatMap_append]; simp
    have hbl : ((s.take i).flatMap quo1).length ≤ 3000000000000 := by
      have := quotes_len (s.take i)
      rw [List.length_take] at this
      omega
    rw [quo1] at htk
    generalize s[i] = c at *
    generalize (s.take i).flatMap quo1 = bs at *
    refine Xc_h ?_; (conv => whnf); refine Hid.seq ?_; refine Hid.reg ?_; (conv => whnf); refine Hid.seq ?_; refine Hid.cond rfl ?_
    skip
    refine SIf.y Ty.mixed (decide_eq_true (by rw [hml]; omega)) ?_; refine Xc_h ?_; (conv => whnf); refine Hid.skip ?_; (conv => whnf); refine Hid.seq ?_; refine Hid.seq ?_; refine Hid.reg ?_; (conv => whnf)
    refine ⟨_, ⟨by first | omega | (simp only [List.length_cons, List.length_append, List.length_nil, List.length_map, length_aBytes, List.length_replicate, List.length_range]; omega) | fail, by exact gc⟩, ?_⟩
    (conv => whnf); refine Hid.seq ?_; refine Hid.reg ?_; (conv => whnf); refine SCall.p (by exact plain_any w0 c) ?_; (conv => whnf); refine Hid.cond rfl ?_
    cases hp : plainB c with
    | true =>
      rw [if_pos hp] at htk
      refine SIf.y Ty.mixed rfl ?_; refine Xc_h ?_; (conv => whnf); refine Hid.reg ?_; (conv => whnf)
      skip
      refine SCall.w (writeByte_any w0 hb c (by omega)) rfl ?_; rintro r s' ⟨rfl, hb'⟩ hB; refine ⟨_, Know.nil s', ?_⟩; (conv => whnf); refine Hid.reg ?_; (conv => whnf); refine ⟨_, IntWalk.i64_in _ (by omega), ?_⟩; (conv => whnf)
      exact ⟨i + 1, by omega, by repeat (first | exact trivial | refine ⟨by first | trivial | exact Weak.refl _ | exact Weak.tok _ _ _ | exact Weak.of_eq (congrArg (AV.int _) (by omega)) | exact Weak.of_eq (congrArg AV.bool (by fail)) | exact Weak.nils _ _ (.inr rfl), ?_⟩), .none _, hlt, by rw [htk]; exact hb'⟩
    | false =>
      rw [if_neg (by simp [hp])] at htk
      refine SIf.n Ty.mixed rfl ?_; refine Xc_h ?_; (conv => whnf); refine Hid.reg ?_; (conv => whnf); refine SCall.p (by exact hex_any w0 c) ?_; (conv => whnf); refine And.intro (by simp [hexT]; done) ?_; (conv => whnf); refine SCall.w (writeString_any w0 hb ([37] ++ hexT c) (by simp) (by simp [hexT]; omega)) rfl ?_; rintro r s' ⟨rfl, hb'⟩ hB; refine ⟨_, Know.nil s', ?_⟩; (conv => whnf)
      refine Hid.reg ?_; (conv => whnf); refine ⟨_, IntWalk.i64_in _ (by omega), ?_⟩; (conv => whnf)
      exact ⟨i + 1, by omega, by repeat (first | exact trivial | refine ⟨by first | trivial | exact Weak.refl _ | exact Weak.tok _ _ _ | exact Weak.of_eq (congrArg (AV.int _) (by omega)) | exact Weak.of_eq (congrArg AV.bool (by fail)) | exact Weak.nils _ _ (.inr rfl), ?_⟩), .none _, hlt, by rw [htk]; exact hb'⟩
  · have hge : i = s.length := by omega
    subst hge
    rw [List.take_length] at hb
    have hbl := quotes_len s
    refine Xc_h ?_; (conv => whnf); refine Hid.seq ?_; refine Hid.reg ?_; (conv => whnf); refine Hid.seq ?_; refine Hid.cond rfl ?_
    skip
    refine SIf.n Ty.mixed (decide_eq_false (by rw [hml]; omega)) ?_; refine Xc_h ?_; (conv => whnf); refine Hid.exit ?_; (conv => whnf); refine Hid.seq ?_; refine Hid.reg ?_; (conv => whnf)
    skip
    refine SCall.w (string_any w0 hb (by omega)) rfl ?_; rintro r s' ⟨rfl, hle⟩ hB; refine ⟨_, Know.nil s', ?_⟩; (conv => whnf); refine Hid.ret ?_; (conv => whnf)
    skip
    exact .p hle rfl
end Go.Proofs.YtjcikceophcooaaDoor
end
section
set_option linter.unusedVariables false
set_option linter.unusedSimpArgs false
set_option maxRecDepth 100000
namespace Go.Proofs.YtjcikceophcooaaDoor
open Go.Al Go.RowKit
def digI (c : UInt8) : Int := Lib.indexByte digitsL c
def digN (c : UInt8) : Nat := (digI c).toNat
theorem dig_ix {c : UInt8} (h : 0 ≤ digI c) : digN c < 16 ∧ hexD (digN c) = c ∧ digI c = (digN c : Int) := by
  have e : digI c = (digN c : Int) := by unfold digN; omega
  have h1 := (Lib.indexByte_some (l := digitsL) (c := c) (o := digN c) e).1
  have hl : digN c < 16 := by
    obtain ⟨h2, _⟩ := List.getElem?_eq_some_iff.1 h1
    exact h2
  exact ⟨hl, by rw [hexD_get hl] at h1; exact Option.some.inj h1, e⟩
theorem ix_hex {n : Nat} (h : n < 16) : digI (hexD n) = n := by
  have : ∀ n : Fin 16, digI (hexD n.val) = (n.val : Int) := by decide
  exact this ⟨n, h⟩
theorem digN_hex {n : Nat} (h : n < 16) : digN (hexD n) = n := by rw [digN, ix_hex h]; rfl
def hexB (a b : UInt8) : UInt8 := UInt8.ofNat (16 * digN a + digN b)
theorem hexB_hex (c : UInt8) : hexB (hexD (c.toNat / 16)) (hexD (c.toNat % 16)) = c := by
  have hc := c.toNat_lt
  rw [hexB, digN_hex (by omega), digN_hex (by omega)]
  apply UInt8.toNat_inj.1
  rw [UInt8.toNat_ofNat']
  omega
theorem hexT_hexB {a b : UInt8} (ha : 0 ≤ digI a) (hb : 0 ≤ digI b) : hexT (hexB a b) = [a, b] := by
  obtain ⟨h1, h2, _⟩ := dig_ix ha
  obtain ⟨h3, h4, _⟩ := dig_ix hb
  have : (hexB a b).toNat = 16 * digN a + digN b := by rw [hexB, UInt8.toNat_ofNat']; omega
  rw [hexT, this, show (16 * digN a + digN b) / 16 = digN a by omega, show (16 * digN a + digN b) % 16 = digN b by omega, h2, h4]
def unqL : List UInt8 → Option (List UInt8)
  | [] => some []
  | [c] => if c = 37 then none else if plainB c = true then some [c] else none
  | [c, a] => if c = 37 then none else if plainB c = true then (unqL [a]).map (c :: ·) else none
  | c :: a :: b :: s => if c = 37 then (if 0 ≤ digI a ∧ 0 ≤ digI b ∧ plainB (hexB a b) = false then (unqL s).map (hexB a b :: ·) else none) else if plainB c = true then (unqL (a :: b :: s)).map (c :: ·) else none
def unqT (s : List UInt8) : Option (List UInt8) := if s = [37] then some [] else match unqL s with
  | some (x :: l) => some (x :: l)
  | _ => none
theorem unqL_plain {c : UInt8} (h : c ≠ 37) : ∀ s, unqL (c :: s) = if plainB c = true then (unqL s).map (c :: ·) else none
  | [] => by
    have : unqL [c] = if c = 37 then none else if plainB c = true then some [c] else none := by rw [unqL]
    rw [this, if_neg h]; rfl
  | [a] => by
    have : unqL [c, a] = if c = 37 then none else if plainB c = true then (unqL [a]).map (c :: ·) else none := by
      conv => lhs; rw [unqL]
    rw [this, if_neg h]
  | a :: b :: s => by rw [unqL, if_neg h]
theorem plain37 {c : UInt8} (h : plainB c = true) : c ≠ 37 := by
  rintro rfl
  exact absurd h (by decide)
theorem unqL_quoted : ∀ o : List UInt8, unqL (o.flatMap quo1) = some o
  | [] => rfl
  | c :: o => by
    rw [List.flatMap_cons, quo1]
    split
    · rename_i h
      rw [List.singleton_append, unqL_plain (plain37 h), if_pos h, unqL_quoted o]; rfl
    · rename_i h
      have hc := c.toNat_lt
      show unqL (37 :: hexD (c.toNat / 16) :: hexD (c.toNat % 16) :: o.flatMap quo1) = _
      rw [unqL, if_pos rfl, hexB_hex, ix_hex (by omega), ix_hex (by omega), if_pos ⟨by omega, by omega, by simpa using h⟩, unqL_quoted o]; rfl
theorem unqL_some : ∀ (s o : List UInt8), unqL s = some o → o.flatMap quo1 = s
  | [], o, h => by rw [unqL] at h; cases h; rfl
  | [c], o, h => by
    by_cases h37 : c = 37
    · subst h37; rw [unqL, if_pos rfl] at h; cases h
    · rw [unqL, if_neg h37] at h
      split at h
      · rename_i hp; cases h; simp [quo1, hp]
      · cases h
  | [c, a], o, h => by
    by_cases h37 : c = 37
    · subst h37; rw [unqL, if_pos rfl] at h; cases h
    · rw [unqL, if_neg h37] at h
      split at h
      · rename_i hp
        obtain ⟨o', h1, rfl⟩ := Option.map_eq_some_iff.1 h
        have := unqL_some [a] o' h1
        rw [List.flatMap_cons, this, quo1, if_pos hp]; rfl
      · cases h
  | c :: a :: b :: s, o, h => by
    by_cases h37 : c = 37
    · subst h37
      rw [unqL, if_pos rfl] at h
      split at h
      · rename_i hp
        obtain ⟨o', h1, rfl⟩ := Option.map_eq_some_iff.1 h
        have := unqL_some s o' h1
        rw [List.flatMap_cons, this, quo1, if_neg (by rw [hp.2.2]; simp), hexT_hexB hp.1 hp.2.1]; rfl
      · cases h
    · rw [unqL, if_neg h37] at h
      split at h
      · rename_i hp
        obtain ⟨o', h1, rfl⟩ := Option.map_eq_some_iff.1 h
        have := unqL_some (a :: b :: s) o' h1
        rw [List.flatMap_cons, this, quo1, if_pos hp]; rfl
      · cases h
def decL : List UInt8 → List UInt8
  | [] => []
  | [c] => [c]
  | [c, a] => [c, a]
  | c :: a :: b :: s => if c = 37 ∧ 0 ≤ digI a ∧ 0 ≤ digI b then hexB a b :: decL s else c :: decL (a :: b :: s)
theorem decL_plain {c : UInt8} (h : c ≠ 37) : ∀ s, decL (c :: s) = c :: decL s
  | [] => rfl
  | [a] => rfl
  | a :: b :: s => by rw [decL, if_neg (fun e => h e.1)]
theorem decL_quoted : ∀ o : List UInt8, decL (o.flatMap quo1) = o
  | [] => rfl
  | c :: o => by
    rw [List.flatMap_cons, quo1]
    split
    · rename_i h
      rw [List.singleton_append, decL_plain (plain37 h), decL_quoted o]
    · rename_i h
      have hc := c.toNat_lt
      show decL (37 :: hexD (c.toNat / 16) :: hexD (c.toNat % 16) :: o.flatMap quo1) = _
      rw [decL, hexB_hex, ix_hex (by omega), ix_hex (by omega), if_pos ⟨rfl, by omega, by omega⟩, decL_quoted o]
theorem ref_unq (s : List UInt8) : unqT s = if s = [37] then some [] else if quoteT (decL s) = s then some (decL s) else none := by
  rw [unqT]
  by_cases h37 : s = [37]
  · rw [if_pos h37, if_pos h37]
  rw [if_neg h37, if_neg h37]
  by_cases hq : quoteT (decL s) = s
  · rw [if_pos hq]
    have hne : decL s ≠ [] := fun e => by rw [e] at hq; exact h37 hq.symm
    rw [quoteT, if_neg hne] at hq
    have hu := unqL_quoted (decL s)
    rw [hq] at hu
    rw [hu]
    cases hd : decL s with
    | nil => exact absurd hd hne
    | cons x l => rfl
  · rw [if_neg hq]
    cases hu : unqL s with
    | none => rfl
    | some o =>
      cases o with
      | nil => rfl
      | cons x l =>
        have h1 := unqL_some s _ hu
        have h2 := decL_quoted (x :: l)
        rw [h1] at h2
        exact absurd (by rw [h2, quoteT, if_neg (by simp), h1]) hq
theorem unqT_len {s o : List UInt8} (h : unqT s = some o) : o.length ≤ s.length := by
  rw [unqT] at h
  split at h
  · cases h; simp
  · cases hu : unqL s with
    | none => rw [hu] at h; cases h
    | some o' =>
      rw [hu] at h
      have : o' = o := by
        cases o' with
        | nil => cases h
        | cons x l => simpa using h
      subst this
      have h1 := unqL_some s _ hu
      have h2 : ∀ l : List UInt8, l.length ≤ (l.flatMap quo1).length := by
        intro l
        induction l with
        | nil => simp
        | cons c l ih =>
          have := (quo1_len c).2
          rw [List.flatMap_cons, List.length_append, List.length_cons]; omega
      rw [← h1]; exact h2 _
end Go.Proofs.YtjcikceophcooaaDoor
end
section
set_option linter.unusedVariables false
set_option linter.unusedSimpArgs false
namespace Go.Proofs.YtjcikceophcooaaDoor
open Go.Al Go.RowKit
theorem decDigits_dN (u : Nat) : Lib.decDigits u = dN (Lib.nDigits u) u := by
  induction u using Nat.strongRecOn with
  | ind u ih =>
    rw [Lib.decDigits]
    split
    · rename_i h
      rw [Lib.nDigits_small h]
      have : u % 10 = u := Nat.mod_eq_of_lt h
      simp [dN, dig, this]
    · rename_i h
      rw [Lib.nDigits_big h, dN, ih _ (by omega)]; rfl
theorem nDigits_le : ∀ (k u : Nat), u < 10 ^ (k + 1) → Lib.nDigits u ≤ k + 1
  | 0, u, h => by rw [Lib.nDigits_small (by simpa using h)]; exact Nat.le_refl _
  | k + 1, u, h => by
    by_cases h1 : u < 10
    · rw [Lib.nDigits_small h1]; omega
    · rw [Lib.nDigits_big h1]
      have := nDigits_le k (u / 10) (by rw [Nat.pow_succ] at h; omega)
      omega
theorem decNat_digits (u : Nat) : Lib.decNat (Lib.decDigits u) = some u := by
  have hp := Lib.nDigits_pos u
  obtain ⟨k, hk⟩ : ∃ k, Lib.nDigits u = k + 1 := ⟨Lib.nDigits u - 1, by omega⟩
  have hlt := Lib.lt_pow_nDigits u
  rw [decDigits_dN, hk]
  rw [hk] at hlt
  have hl := dN_length (k + 1) u
  have hf := decFrom_dN (k + 1) u 0
  generalize dN (k + 1) u = l at hl hf
  cases l with
  | nil => simp at hl
  | cons b r => rw [Lib.decNat, List.isEmpty_cons, if_neg (by simp), hf, Nat.mod_eq_of_lt hlt]; simp
theorem atoi_itoa (n : Int) : Lib.atoi (Lib.itoa n) = some n := by
  rw [Lib.itoa]
  split
  · rename_i h
    rw [Lib.atoi]
    simp only [beq_self_eq_true, if_true, decNat_digits, Option.map_some, Option.some.injEq]
    omega
  · rename_i h
    have hp := Lib.nDigits_pos n.toNat
    obtain ⟨k, hk⟩ : ∃ k, Lib.nDigits n.toNat = k + 1 := ⟨Lib.nDigits n.toNat - 1, by omega⟩
    have hlt := Lib.lt_pow_nDigits n.toNat
    rw [decDigits_dN, hk]
    rw [hk] at hlt
    rw [atoi_dN k _ hlt]
    exact congrArg some (by omega)
theorem itoa_len {n : Int} (h : -10000000000000000 < n ∧ n < 10000000000000000) : (Lib.itoa n).length ≤ 17 := by
  rw [Lib.itoa]
  split
  · rw [List.length_cons, Lib.decDigits_length]
    have := nDigits_le 15 n.natAbs (by have : (10 : Nat) ^ 16 = 10000000000000000 := by decide
                                       omega)
    omega
  · rw [Lib.decDigits_length]
    have := nDigits_le 15 n.toNat (by have : (10 : Nat) ^ 16 = 10000000000000000 := by decide
                                      omega)
    omega
theorem itoa_len20 {n : Int} (h : -9223372036854775808 ≤ n ∧ n ≤ 9223372036854775807) : (Lib.itoa n).length ≤ 21 := by
  rw [Lib.itoa]
  split
  · rw [List.length_cons, Lib.decDigits_length]
    have := Lib.nDigits_le20 n.natAbs (by omega)
    omega
  · rw [Lib.decDigits_length]
    have := Lib.nDigits_le20 n.toNat (by omega)
    omega
def numOk (s : List UInt8) : Bool := decide (s.length ≤ 17) && (decide (Lib.itoa (goAtoi s).1 = s) && (decide ((goAtoi s).1 < 10000000000000000) && decide (-10000000000000000 < (goAtoi s).1)))
theorem num_same (s : List UInt8) : ((goAtoi s).2 && (decide (Lib.itoa (goAtoi s).1 = s) && (decide ((goAtoi s).1 ≤ 9999999999999999) && decide (-9999999999999999 ≤ (goAtoi s).1)))) = numOk s := by
  rw [numOk, Bool.eq_iff_iff]
  simp only [Bool.and_eq_true, decide_eq_true_eq]
  constructor
  · rintro ⟨h1, h2, h3, h4⟩
    have := itoa_len (n := (goAtoi s).1) ⟨by omega, by omega⟩
    rw [h2] at this
    exact ⟨this, h2, by omega, by omega⟩
  · rintro ⟨h1, h2, h3, h4⟩
    refine ⟨?_, h2, by omega, by omega⟩
    have := atoi_itoa (goAtoi s).1
    rw [h2] at this
    rw [goAtoi_ok (by omega) this]
theorem goAtoi_bounds (s : List UInt8) : -9223372036854775808 ≤ (goAtoi s).1 ∧ (goAtoi s).1 ≤ 9223372036854775807 := by
  unfold goAtoi
  split
  · rename_i v h
    exact Lib.atoiAll_bounds h
  · exact Lib.atoiSat_bounds s
  · exact ⟨by decide, by decide⟩
theorem num_itoa {n : Int} (h : -10000000000000000 < n ∧ n < 10000000000000000) : goAtoi (Lib.itoa n) = (n, true) ∧ numOk (Lib.itoa n) = true := by
  have hl := itoa_len h
  have h1 := goAtoi_ok (by omega) (atoi_itoa n)
  refine ⟨h1, ?_⟩
  rw [numOk, h1]
  simp only [Bool.and_eq_true, decide_eq_true_eq]
  exact ⟨hl, trivial, h.2, h.1⟩
end Go.Proofs.YtjcikceophcooaaDoor
end
section
set_option linter.unusedVariables false
set_option linter.unusedSimpArgs false
namespace Go.Proofs.YtjcikceophcooaaDoor
open Go.Al Go.RowKit
structure OpV where
  kind : Int
  sub : Int
  n : Int
  seq : Int
  name : List UInt8
  topic : List UInt8
  want : List UInt8
  body : List UInt8
  attr : List UInt8
  data : List UInt8
deriving DecidableEq
def opK (k : Int) : OpV := ⟨k, 0, 0, 0, [], [], [], [], [], []⟩
def op0 : OpV := opK 0
def oC (o : OpV) (d : AV) : List AV := [.int .i64 o.kind, .int .i64 o.sub, .int .i64 o.n, .int .i64 o.seq, .str o.name, .str o.topic, .str o.want, .str o.body, .str o.attr, d]
def dB (l : List UInt8) : AV := .slc 1 (aBytes l) .no
def eOp (o : OpV) : AV := .agg (oC o (dB o.data))
def uq (w : List UInt8) : List UInt8 := (unqT w).getD []
def uk (w : List UInt8) : Bool := (unqT w).isSome
def setF (o : OpV) (f : Nat) (w : List UInt8) : OpV × Bool :=
  match f with
  | 0 => ({ o with name := uq w }, uk w)
  | 1 => ({ o with topic := uq w }, uk w)
  | 2 => ({ o with want := uq w }, uk w)
  | 3 => ({ o with body := uq w }, uk w)
  | 4 => ({ o with attr := uq w }, uk w)
  | 5 => ({ o with data := uq w }, uk w)
  | 6 => ({ o with sub := (goAtoi w).1 }, numOk w)
  | 7 => ({ o with n := (goAtoi w).1 }, numOk w)
  | _ => ({ o with seq := (goAtoi w).1 }, numOk w)
def toldF (o : OpV) (f : Nat) : List UInt8 :=
  match f with
  | 0 => quoteT o.name
  | 1 => quoteT o.topic
  | 2 => quoteT o.want
  | 3 => quoteT o.body
  | 4 => quoteT o.attr
  | 5 => quoteT o.data
  | 6 => Lib.itoa o.sub
  | 7 => Lib.itoa o.n
  | _ => Lib.itoa o.seq
def formsL : List (List UInt8 × List Nat) :=
  [([115, 117, 98, 115, 99, 114, 105, 98, 101], [0, 1, 2, 7, 8]), ([117, 110, 115, 117, 98, 115, 99, 114, 105, 98, 101], [6]), ([112, 117, 98, 108, 105, 115, 104], [1, 3, 4, 7]), ([102, 101, 116, 99, 104], [6, 7]),
   ([97, 99, 107], [6, 8]), ([97, 99, 107, 116, 111], [6, 8]), ([110, 97, 99, 107], [6, 8]), ([116, 105, 99, 107], [7]), ([100, 101, 97, 100], [6]), ([112, 117, 114, 103, 101], [6]), ([110, 111, 116, 101], [6, 0]),
   ([108, 111, 111, 107], []), ([109, 111, 118, 101], [7]), ([115, 116, 101, 112], []), ([98, 97, 99, 107], []), ([101, 120, 112, 111, 114, 116], [7]), ([105, 109, 112, 111, 114, 116], [7, 5]), ([109, 97, 114, 107], []), ([114, 101, 115, 116, 111, 114, 101], [7]), ([99, 104, 101, 99, 107], [])]
def fillR : OpV → List Nat → List (List UInt8) → OpV × Nat
  | o, [], _ => (o, 0)
  | o, f :: fs, w :: ws => if (setF o f w).2 = true then fillR (setF o f w).1 fs ws else (op0, 1)
  | o, _ :: _, [] => (op0, 1)
def parseAt : List (List UInt8 × List Nat) → Nat → List UInt8 → List (List UInt8) → OpV × Nat
  | [], _, _, _ => (op0, 70)
  | (n, fs) :: l, k, w0, ws => if n = w0 then (if ws.length = fs.length then fillR (opK ((k : Int) + 1)) fs ws else (op0, 1)) else parseAt l (k + 1) w0 ws
end Go.Proofs.YtjcikceophcooaaDoor
end
section
set_option linter.unusedVariables false
set_option linter.unusedSimpArgs false
set_option maxRecDepth 100000
set_option maxHeartbeats 2000000
namespace Go.Proofs.YtjcikceophcooaaDoor
open Go.Al Go.RowKit
theorem ixByte_any (w0 : Base) (s : List UInt8) (c : UInt8) : CallP Tryd.prog w0 34 [.str s, .int .u8 c.toNat] (.int .i64 (Lib.indexByte s c)) := by
  have inner : CallP Tryd.prog w0 47 [.str s, .int .u8 c.toNat] (.int .i64 (Lib.indexByte s c)) := .told fun G w vs hb hr => by
    cases hr with
    | cons h t =>
      cases t with
      | cons h2 t =>
        cases t
        cases h
        cases h2
        refine ⟨_, fun w' => .int _ _, (Tryd.stringslite_IndexByte ⟨s.toArray⟩ c.toNat w).mono fun e w' ⟨he, hw⟩ => ⟨?_, hw ▸ .refl _ _⟩⟩
        rw [he]
        have : ((c.toNat : Int)).toNat.toUInt8 = c := by simp
        rw [this]
  refine CallP.h Ty.tok Ty.mixed Tryd.func34 rfl Tryd.ntmps34 rfl (by simp) (by decide +kernel) fun σ => ?_
  (conv => whnf); refine Hid.seq ?_; refine Hid.reg ?_; (conv => whnf); refine Hid.seq ?_; refine Hid.reg ?_; (conv => whnf); refine SCall.p (by exact inner) ?_; (conv => whnf); refine Hid.ret ?_; (conv => whnf); exact .p (.refl _) rfl
theorem refDigit_any (w0 : Base) (c : UInt8) : CallP Tryd.prog w0 43 [.int .u8 c.toNat] (.int .i64 (digI c)) := by
  refine CallP.h Ty.tok Ty.mixed Tryd.func43 rfl Tryd.ntmps43 rfl (by simp) (by decide +kernel) fun σ => ?_
  (conv => whnf); refine Hid.seq ?_; refine Hid.reg ?_; (conv => whnf); refine Hid.seq ?_; refine Hid.seq ?_; refine Hid.reg ?_; (conv => whnf); refine Hid.block ?_; refine Hid.loop ?_
  skip
  refine SLoop.by Ty.mixed (fun i : Nat => 16 - i) (fun i => [(0, .int .u8 c.toNat), (3, .int .i64 i)]) (fun _ => []) (fun i τ => i ≤ 16 ∧ (∀ j, j < i → digitsL[j]? ≠ some c) ∧ τ = σ) 0 ⟨by repeat (first | exact trivial | refine ⟨by first | trivial | exact Weak.refl _ | exact Weak.tok _ _ _ | exact Weak.of_eq (congrArg (AV.int _) (by omega)) | exact Weak.of_eq (congrArg AV.bool (by fail)) | exact Weak.nils _ _ (.inr rfl), ?_⟩), .none _, Nat.zero_le _, (fun j hj => by omega), rfl⟩ ?_
  rintro i τ ⟨hi, hn, rfl⟩
  by_cases hlt : i < 16
  · have gc := hexD_get hlt
    have gc' : digitsL[((i : Int)).toNat]? = some (hexD i) := by simpa using gc
    refine Xc_h ?_; (conv => whnf); refine Hid.seq ?_; refine Hid.seq ?_; refine Hid.reg ?_; (conv => whnf); refine Hid.cond rfl ?_
    skip
    refine SIf.y Ty.mixed (decide_eq_true (by omega)) ?_; refine Xc_h ?_; (conv => whnf); refine Hid.skip ?_; (conv => whnf); refine Hid.seq ?_; refine Hid.seq ?_; refine Hid.reg ?_; (conv => whnf)
    refine ⟨_, ⟨by omega, gc'⟩, ?_⟩
    (conv => whnf); refine Hid.cond rfl ?_
    by_cases he : hexD i = c
    · refine SIf.y Ty.mixed (decide_eq_true (by rw [he])) ?_
      refine Xc_h ?_; (conv => whnf); refine Hid.seq ?_; refine Hid.reg ?_; (conv => whnf); refine Hid.ret ?_; (conv => whnf)
      skip
      exact .p (.refl _) (by rw [← he, ix_hex hlt])
    · refine SIf.n Ty.mixed (decide_eq_false fun e => he (UInt8.toNat_inj.1 (by omega))) ?_
      refine Xc_h ?_; (conv => whnf); refine Hid.skip ?_; (conv => whnf); refine Hid.reg ?_; (conv => whnf); refine ⟨_, IntWalk.i64_in _ (by omega), ?_⟩; (conv => whnf)
      refine ⟨i + 1, by omega, by repeat (first | exact trivial | refine ⟨by first | trivial | exact Weak.refl _ | exact Weak.tok _ _ _ | exact Weak.of_eq (congrArg (AV.int _) (by omega)) | exact Weak.of_eq (congrArg AV.bool (by fail)) | exact Weak.nils _ _ (.inr rfl), ?_⟩), .none _, hlt, fun j hj => ?_, rfl⟩
      by_cases hji : j = i
      · subst hji
        rw [gc]
        exact fun e => he (Option.some.inj e)
      · exact hn j (by omega)
  · have hge : i = 16 := by omega
    subst hge
    refine Xc_h ?_; (conv => whnf); refine Hid.seq ?_; refine Hid.seq ?_; refine Hid.reg ?_; (conv => whnf); refine Hid.cond rfl ?_; refine SIf.n Ty.mixed (by exact rfl) ?_; refine Xc_h ?_; (conv => whnf); refine Hid.exit ?_; (conv => whnf); refine Hid.seq ?_; refine Hid.reg ?_; (conv => whnf); refine Hid.ret ?_; (conv => whnf)
    have hneg : digI c = -1 := by
      rcases Int.lt_or_le (digI c) 0 with h | h
      · have := Lib.indexByte_ge digitsL c
        unfold digI at h ⊢
        omega
      · obtain ⟨h1, h2, _⟩ := dig_ix h
        exact absurd (by rw [hexD_get h1, h2]) (hn _ h1)
    exact .p (.refl _) (by rw [hneg])
theorem byte_in {n : Int} {m : Nat} (h : n = m) (hm : m < 256) : (Al.byteOf n).toNat = m := by
  subst h
  rw [Al.byteOf, UInt8.toNat_ofNat']
  omega
theorem hex_cut {n : Nat} (h : n < 16) : List.drop ((n : Int)).toNat (List.take (((n + 1 : Nat) : Int)).toNat digitsL) = [hexD n] := by
  have : ∀ n : Fin 16, List.drop (((n.val : Nat) : Int)).toNat (List.take (((n.val + 1 : Nat) : Int)).toNat digitsL) = [hexD n.val] := by decide
  exact this ⟨n, h⟩
theorem refQuote_any (w0 : Base) (s : List UInt8) (hs : s.length ≤ 1000000000000) : CallP Tryd.prog w0 9 [.str s] (.str (quoteT s)) := by
  refine CallP.h Ty.tok Ty.mixed Tryd.func9 rfl Tryd.ntmps9 rfl (by simp) (by decide +kernel) fun σ => ?_
  by_cases h0 : s = []
  · subst h0
    (conv => whnf); refine Hid.seq ?_; refine Hid.reg ?_; (conv => whnf); refine Hid.seq ?_; refine Hid.seq ?_; refine Hid.reg ?_; (conv => whnf); refine Hid.cond rfl ?_; refine SIf.y Ty.mixed (by exact rfl) ?_; refine Xc_h ?_; (conv => whnf); refine Hid.seq ?_; refine Hid.reg ?_; (conv => whnf); refine Hid.ret ?_; (conv => whnf); exact .p (.refl _) rfl
  rw [quoteT, if_neg h0]
  (conv => whnf); refine Hid.seq ?_; refine Hid.reg ?_; (conv => whnf); refine Hid.seq ?_; refine Hid.seq ?_; refine Hid.reg ?_; (conv => whnf); refine Hid.cond rfl ?_
  skip
  refine SIf.n Ty.mixed (decide_eq_false h0) ?_; refine Xc_h ?_; (conv => whnf); refine Hid.skip ?_; (conv => whnf); refine Hid.seq ?_; refine Hid.reg ?_; (conv => whnf); refine Hid.seq ?_; refine Hid.seq ?_; refine Hid.reg ?_; (conv => whnf); refine Hid.block ?_; refine Hid.loop ?_
  skip
  refine SLoop.by Ty.mixed (fun i : Nat => s.length - i) (fun i => [(0, .str s), (3, .str ((s.take i).flatMap quo1)), (4, .int .i64 i)]) (fun _ => []) (fun i τ => i ≤ s.length ∧ τ = σ) 0 ⟨by repeat (first | exact trivial | refine ⟨by first | trivial | exact Weak.refl _ | exact Weak.tok _ _ _ | exact Weak.of_eq (congrArg (AV.int _) (by omega)) | exact Weak.of_eq (congrArg AV.bool (by fail)) | exact Weak.nils _ _ (.inr rfl), ?_⟩), .none _, Nat.zero_le _, rfl⟩ ?_
  rintro i τ ⟨hi, rfl⟩
  by_cases hlt : i < s.length
  · have gc : s[((i : Int)).toNat]? = some s[i] := by simp [hlt]
    have htk : (s.take (i + 1)).flatMap quo1 = (s.take i).flatMap quo1 ++ quo1 s[i] := by
      rw [List.take_succ_eq_append_getElem hlt, List.flatMap_append]; simp
    have hsl : List.drop ((i : Int)).toNat (List.take ((i : Int) + 1).toNat s) = [s[i]] := by
      rw [show ((i : Int) + 1).toNat = i + 1 by omega, show ((i : Int)).toNat = i by omega, List.take_succ_eq_append_getElem hlt, List.drop_left']
      simp; omega
    have hbl : ((s.take i).flatMap quo1).length ≤ 3000000000000 := by
      have := quotes_len (s.take i)
      rw [List.length_take] at this
      omega
    rw [quo1] at htk
    generalize s[i] = c at *
    have hc := c.toNat_lt
    have e37 : decide ((c.toNat : Int) = 37) = decide (c = 37) := decide_eq_decide.2 ⟨fun h => UInt8.toNat_inj.1 (by rw [show (37 : UInt8).toNat = 37 from rfl]; omega), fun h => by rw [h]; rfl⟩
    refine Xc_h ?_; (conv => whnf); refine Hid.seq ?_; refine Hid.seq ?_; refine Hid.reg ?_; (conv => whnf); refine Hid.cond rfl ?_
    skip
    refine SIf.y Ty.mixed (decide_eq_true (by omega)) ?_
    have h16 : (c.toNat : Int) / 16 = ((c.toNat / 16 : Nat) : Int) := by omega
    have m16 : (c.toNat : Int) % 16 = ((c.toNat % 16 : Nat) : Int) := by omega
    have b1 : (Al.byteOf ((c.toNat : Int) / 16 + 1)).toNat = c.toNat / 16 + 1 := byte_in (by omega) (by omega)
    have b2 : (Al.byteOf ((c.toNat : Int) % 16 + 1)).toNat = c.toNat % 16 + 1 := byte_in (by omega) (by omega)
    have s1 : List.drop ((c.toNat : Int) / 16).toNat (List.take (((Al.byteOf ((c.toNat : Int) / 16 + 1)).toNat : Nat) : Int).toNat digitsL) = [hexD (c.toNat / 16)] := by
      rw [b1, h16]; exact hex_cut (by omega)
    have s2 : List.drop ((c.toNat : Int) % 16).toNat (List.take (((Al.byteOf ((c.toNat : Int) % 16 + 1)).toNat : Nat) : Int).toNat digitsL) = [hexD (c.toNat % 16)] := by
      rw [b2, m16]; exact hex_cut (by omega)
    cases hp : plainB c with
    | true =>
      rw [if_pos hp] at htk
      rw [plainB, ← e37] at hp
      simp only [Bool.and_eq_true, decide_eq_true_eq, Bool.not_eq_true', decide_eq_false_iff_not] at hp
      have d1 : decide ((33 : Int) ≤ (c.toNat : Int)) = true := decide_eq_true (by omega)
      have d2 : decide ((c.toNat : Int) ≤ 126) = true := decide_eq_true (by omega)
      have d3 : decide ((c.toNat : Int) = 37) = false := decide_eq_false (by omega)
      have d4 : (!decide ((c.toNat : Int) = 37)) = true := by rw [d3]; rfl
      refine ⟨_, ⟨by first | omega | (simp only [List.length_cons, List.length_nil, List.length_append, List.length_drop, List.length_take]; omega) | fail, by exact gc⟩, ?_⟩
      refine Xc_h ?_; (conv => whnf); refine Hid.seq ?_; refine Hid.reg ?_; (conv => whnf); refine SCond.y (by assumption) ?_; (conv => whnf); refine SCond.y (by assumption) ?_; (conv => whnf); refine SPick.y (by assumption) ?_; (conv => whnf); refine SCond.y (by assumption) ?_; (conv => whnf); refine SCond.y (by assumption) ?_; (conv => whnf); refine SPick.y (by assumption) ?_; (conv => whnf)
      refine Hid.cond rfl ?_; refine SIf.y Ty.mixed (by assumption) ?_; refine Xc_h ?_; (conv => whnf); refine Hid.reg ?_; (conv => whnf); refine ⟨_, IntWalk.i64_in _ (by omega), ?_⟩; (conv => whnf); refine And.intro (by omega) ?_; (conv => whnf); refine And.intro (by simp only [List.length_cons, List.length_nil, List.length_append, List.length_drop, List.length_take]; omega) ?_; refine Xc_h ?_
      (conv => whnf); refine Hid.reg ?_; (conv => whnf); refine ⟨_, IntWalk.i64_in _ (by omega), ?_⟩; (conv => whnf)
      rw [hsl, ← htk]
      exact ⟨i + 1, by omega, by repeat (first | exact trivial | refine ⟨by first | trivial | exact Weak.refl _ | exact Weak.tok _ _ _ | exact Weak.of_eq (congrArg (AV.int _) (by omega)) | exact Weak.of_eq (congrArg AV.bool (by fail)) | exact Weak.nils _ _ (.inr rfl), ?_⟩), .none _, hlt, rfl⟩
    | false =>
      rw [if_neg (by simp [hp])] at htk
      refine ⟨_, ⟨by first | omega | (simp only [List.length_cons, List.length_nil, List.length_append, List.length_drop, List.length_take]; omega) | (refine ⟨by omega, by omega, ?_⟩; show _ ≤ (16 : Int); omega) | fail, by exact gc⟩, ?_⟩
      refine Xc_h ?_; (conv => whnf); refine Hid.seq ?_; refine Hid.reg ?_; (conv => whnf); refine SCond.mk (fun hc => ?_) (fun hc => ?_); (conv => whnf); rotate_left; (conv => whnf)
      rotate_right
      refine SCond.y (by assumption) ?_; (conv => whnf); refine SPick.y (by assumption) ?_; (conv => whnf); refine SCond.mk (fun hc => ?_) (fun hc => ?_); (conv => whnf); rotate_left; (conv => whnf)
      rotate_right
      refine SCond.y (by assumption) ?_; (conv => whnf); refine SPick.y (by assumption) ?_; (conv => whnf); refine Hid.cond rfl ?_; refine SIf.x Ty.mixed (fun hc => ?_) (fun hc => ?_); refine Xc_h ?_; (conv => whnf); refine Hid.reg ?_; (conv => whnf); rotate_left; refine Xc_h ?_; (conv => whnf); refine Hid.regD ?_
      rotate_right
      refine ⟨_, IntWalk.i64_in _ (by omega), ?_⟩; (conv => whnf); refine And.intro (by omega) ?_; (conv => whnf); refine And.intro (by simp only [List.length_cons, List.length_nil, List.length_append, List.length_drop, List.length_take]; omega) ?_; refine Xc_h ?_; (conv => whnf); refine Hid.reg ?_; (conv => whnf); refine ⟨_, IntWalk.i64_in _ (by omega), ?_⟩; (conv => whnf); rotate_left
      refine SReg.t 0 [] (by decide +kernel) ?_; (conv => whnf); refine And.intro (by simp only [List.length_cons, List.length_nil, List.length_append, List.length_drop, List.length_take]; omega) ?_; (conv => whnf); refine And.intro (by omega) ?_; (conv => whnf); refine And.intro (by omega) ?_; (conv => whnf)
      refine And.intro (by simp only [List.length_cons, List.length_nil, List.length_append, List.length_drop, List.length_take]; omega) ?_; (conv => whnf); refine And.intro (by simp only [List.length_cons, List.length_nil, List.length_append, List.length_drop, List.length_take]; omega) ?_; (conv => whnf); refine And.intro (by omega) ?_; (conv => whnf); refine And.intro (by omega) ?_
      (conv => whnf); refine And.intro (by simp only [List.length_cons, List.length_nil, List.length_append, List.length_drop, List.length_take]; omega) ?_; (conv => whnf); refine And.intro (by simp only [List.length_cons, List.length_nil, List.length_append, List.length_drop, List.length_take]; omega) ?_; refine Xc_h ?_; (conv => whnf); refine Hid.reg ?_; (conv => whnf)
      refine ⟨_, IntWalk.i64_in _ (by omega), ?_⟩; (conv => whnf); rotate_left; refine SCond.n (by assumption) ?_; (conv => whnf); refine SPick.n (by assumption) ?_; (conv => whnf); refine Hid.cond rfl ?_; refine SIf.n Ty.mixed (by exact rfl) ?_; refine Xc_h ?_; (conv => whnf); refine Hid.regD ?_; refine SReg.t 0 [] (by decide +kernel) ?_; (conv => whnf)
      refine And.intro (by simp only [List.length_cons, List.length_nil, List.length_append, List.length_drop, List.length_take]; omega) ?_; (conv => whnf); refine And.intro (by omega) ?_; (conv => whnf); refine And.intro (by omega) ?_; (conv => whnf); refine And.intro (by simp only [List.length_cons, List.length_nil, List.length_append, List.length_drop, List.length_take]; omega) ?_
      (conv => whnf); refine And.intro (by simp only [List.length_cons, List.length_nil, List.length_append, List.length_drop, List.length_take]; omega) ?_; (conv => whnf); refine And.intro (by omega) ?_; (conv => whnf); refine And.intro (by omega) ?_; (conv => whnf)
      refine And.intro (by simp only [List.length_cons, List.length_nil, List.length_append, List.length_drop, List.length_take]; omega) ?_; (conv => whnf); refine And.intro (by simp only [List.length_cons, List.length_nil, List.length_append, List.length_drop, List.length_take]; omega) ?_; refine Xc_h ?_; (conv => whnf); refine Hid.reg ?_; (conv => whnf)
      refine ⟨_, IntWalk.i64_in _ (by omega), ?_⟩; (conv => whnf); rotate_left; refine SCond.n (by assumption) ?_; (conv => whnf); refine SPick.n (by assumption) ?_; (conv => whnf); refine SCond.n (by exact rfl) ?_; (conv => whnf); refine SCond.n (by exact rfl) ?_; (conv => whnf); refine SPick.n (by exact rfl) ?_; (conv => whnf); refine Hid.cond rfl ?_; refine SIf.n Ty.mixed (by exact rfl) ?_
      refine Xc_h ?_; (conv => whnf); refine Hid.regD ?_; refine SReg.t 0 [] (by decide +kernel) ?_; (conv => whnf); refine And.intro (by simp only [List.length_cons, List.length_nil, List.length_append, List.length_drop, List.length_take]; omega) ?_; (conv => whnf); refine And.intro (by omega) ?_; (conv => whnf); refine And.intro (by omega) ?_; (conv => whnf)
      refine And.intro (by simp only [List.length_cons, List.length_nil, List.length_append, List.length_drop, List.length_take]; omega) ?_; (conv => whnf); refine And.intro (by simp only [List.length_cons, List.length_nil, List.length_append, List.length_drop, List.length_take]; omega) ?_; (conv => whnf); refine And.intro (by omega) ?_; (conv => whnf); refine And.intro (by omega) ?_
      (conv => whnf); refine And.intro (by simp only [List.length_cons, List.length_nil, List.length_append, List.length_drop, List.length_take]; omega) ?_; (conv => whnf); refine And.intro (by simp only [List.length_cons, List.length_nil, List.length_append, List.length_drop, List.length_take]; omega) ?_; refine Xc_h ?_; (conv => whnf); refine Hid.reg ?_; (conv => whnf)
      refine ⟨_, IntWalk.i64_in _ (by omega), ?_⟩; (conv => whnf); rotate_left
      all_goals first
        | (exfalso
           rw [plainB, ← e37] at hp
           simp only [Bool.and_eq_false_iff, Bool.and_eq_true, decide_eq_true_eq, Bool.not_eq_true', Bool.not_eq_false', decide_eq_false_iff_not] at *
           omega)
        | (refine ⟨i + 1, by omega, ?_, .none _, hlt, rfl⟩
           show xWeak [(0, .str s), (3, .str ((s.take (i + 1)).flatMap quo1)), (4, .int .i64 (i + 1 : Nat))] _
           rw [htk, hexT]
           have e : ∀ l : List UInt8, ((l ++ [37]) ++ List.drop ((c.toNat : Int) / 16).toNat (List.take (((Al.byteOf ((c.toNat : Int) / 16 + 1)).toNat : Nat) : Int).toNat digitsL)) ++ List.drop ((c.toNat : Int) % 16).toNat (List.take (((Al.byteOf ((c.toNat : Int) % 16 + 1)).toNat : Nat) : Int).toNat digitsL) = l ++ 37 :: [hexD (c.toNat / 16), hexD (c.toNat % 16)] := fun l => by rw [s1, s2]; simp
           rw [← e]
           repeat (first | exact trivial | refine ⟨by first | trivial | exact Weak.refl _ | exact Weak.tok _ _ _ | exact Weak.of_eq (congrArg (AV.int _) (by omega)) | exact Weak.of_eq (congrArg AV.bool (by fail)) | exact Weak.nils _ _ (.inr rfl), ?_⟩))
  · have hge : i = s.length := by omega
    subst hge
    refine Xc_h ?_; (conv => whnf); refine Hid.seq ?_; refine Hid.seq ?_; refine Hid.reg ?_; (conv => whnf); refine Hid.cond rfl ?_
    skip
    refine SIf.n Ty.mixed (decide_eq_false (by omega)) ?_; refine Xc_h ?_; (conv => whnf); refine Hid.exit ?_; (conv => whnf); refine Hid.seq ?_; refine Hid.reg ?_; (conv => whnf); refine Hid.ret ?_; (conv => whnf)
    skip
    exact .p (.refl _) (by rw [List.take_length])
end Go.Proofs.YtjcikceophcooaaDoor
end
section
set_option linter.unusedVariables false
set_option linter.unusedSimpArgs false
set_option maxRecDepth 100000
set_option maxHeartbeats 2000000
namespace Go.Proofs.YtjcikceophcooaaDoor
open Go.Al Go.RowKit
def unqR (s : List UInt8) : AV := match unqT s with
  | some o => .tup [.str o, .bool true]
  | none => .tup [.str [], .bool false]
theorem or_shl {x y : Nat} (hx : x < 16) (hy : y < 16) : Al.byteOf (IntKind.i64.wrap ((BitVec.ofInt 64 (IntKind.i64.wrap ((x : Int) * 2 ^ (min (4 : Int).toNat IntKind.i64.bits))) ||| BitVec.ofInt 64 (y : Int)).toNat : Int)) = UInt8.ofNat (16 * x + y) := by
  have : ∀ x y : Fin 16, Al.byteOf (IntKind.i64.wrap ((BitVec.ofInt 64 (IntKind.i64.wrap (((x.val : Nat) : Int) * 2 ^ (min (4 : Int).toNat IntKind.i64.bits))) ||| BitVec.ofInt 64 ((y.val : Nat) : Int)).toNat : Int)) = UInt8.ofNat (16 * x.val + y.val) := by decide +kernel
  exact this ⟨x, hx⟩ ⟨y, hy⟩
theorem unqR_none {s : List UInt8} (h37 : s ≠ [37]) (h : unqL s = none) : unqR s = .tup [.str [], .bool false] := by
  rw [unqR, unqT, if_neg h37, h]
theorem unqR_some {s o : List UInt8} (h37 : s ≠ [37]) (h : unqL s = some o) : unqR s = .tup [.str o, .bool (decide ((0 : Int) < ((aBytes o).length : Int)))] := by
  rw [unqR, unqT, if_neg h37, h]
  cases o with
  | nil => rfl
  | cons x l => simp [aBytes]
theorem unquote_any (w0 : Base) (s : List UInt8) (hs : s.length ≤ 1000000000000) : CallP Tryd.prog w0 19 [.str s] (unqR s) := by
  refine CallP.h Ty.tok Ty.mixed Tryd.func19 rfl Tryd.ntmps19 rfl (by simp) (by decide +kernel) fun σ => ?_
  by_cases h37 : s = [37]
  · subst h37
    (conv => whnf); refine Hid.seq ?_; refine Hid.reg ?_; (conv => whnf); refine Hid.seq ?_; refine Hid.seq ?_; refine Hid.reg ?_; (conv => whnf); refine Hid.cond rfl ?_; refine SIf.y Ty.mixed (by exact rfl) ?_; refine Xc_h ?_; (conv => whnf); refine Hid.seq ?_; refine Hid.reg ?_; (conv => whnf); refine Hid.ret ?_; (conv => whnf); exact .p (.refl _) rfl
  (conv => whnf); refine Hid.seq ?_; refine Hid.reg ?_; (conv => whnf); refine Hid.seq ?_; refine Hid.seq ?_; refine Hid.reg ?_; (conv => whnf); refine Hid.cond rfl ?_
  skip
  refine SIf.n Ty.mixed (decide_eq_false h37) ?_; refine Xc_h ?_; (conv => whnf); refine Hid.skip ?_; (conv => whnf); refine Hid.seq ?_; refine Hid.reg ?_; (conv => whnf); refine Hid.seq ?_; refine Hid.block ?_; refine Hid.loop ?_
  skip
  refine SLoop.by Ty.mixed (fun ((rest, done, tk) : List UInt8 × List UInt8 × Tok) => rest.length) (fun (rest, done, tk) => [(0, .str rest), (4, .slc 1 (aBytes done) tk)]) (fun _ => []) (fun (rest, done, tk) τ => done.length + rest.length ≤ s.length ∧ (unqL rest).map (done ++ ·) = unqL s ∧ Moves σ .full τ tk) (s, [], .full) ⟨by repeat (first | exact trivial | refine ⟨by first | trivial | exact Weak.refl _ | exact Weak.tok _ _ _ | exact Weak.of_eq (congrArg (AV.int _) (by omega)) | exact Weak.of_eq (congrArg AV.bool (by fail)) | exact Weak.nils _ _ (.inr rfl), ?_⟩), .none _, by simp, by simp, .full _⟩ ?_
  rintro ⟨rest, done, tk⟩ τ ⟨hl, hu, hm⟩
  dsimp only at hl hu hm ⊢
  match rest with
  | [] =>
    have hun : unqL s = some done := by rw [← hu, unqL]; simp
    refine Xc_h ?_; (conv => whnf); refine Hid.seq ?_; refine Hid.seq ?_; refine Hid.reg ?_; (conv => whnf); refine Hid.cond rfl ?_; refine SIf.n Ty.mixed (by exact rfl) ?_; refine Xc_h ?_; (conv => whnf); refine Hid.exit ?_; (conv => whnf); refine Hid.seq ?_; refine Hid.reg ?_; (conv => whnf); refine ⟨_, toBytes_aBytes _, ?_⟩; (conv => whnf); refine Hid.ret ?_; (conv => whnf)
    rw [unqR_some h37 hun]
    exact .p hm.le rfl
  | c :: r =>
    have hcut : List.drop ((1 : Int)).toNat (List.take (((c :: r).length : Nat) : Int).toNat (c :: r)) = r := by simp
    refine Xc_h ?_; (conv => whnf); refine Hid.seq ?_; refine Hid.seq ?_; refine Hid.reg ?_; (conv => whnf); refine Hid.cond rfl ?_; refine SIf.y Ty.mixed (by exact rfl) ?_; refine Xc_h ?_; (conv => whnf); refine Hid.skip ?_; (conv => whnf); refine Hid.seq ?_; refine Hid.reg ?_; (conv => whnf)
    refine ⟨_, ⟨by first | omega | (simp only [List.length_cons, List.length_nil]; omega) | fail, by exact rfl⟩, ?_⟩
    (conv => whnf); refine Hid.seq ?_; refine Hid.reg ?_; (conv => whnf); refine And.intro (by simp only [List.length_cons, List.length_nil]; omega) ?_; (conv => whnf); refine Hid.seq ?_; refine Hid.seq ?_; refine Hid.reg ?_; (conv => whnf); refine Hid.cond rfl ?_
    rw [hcut]
    by_cases hc : c = 37
    · refine SIf.y Ty.mixed (decide_eq_true (by rw [hc]; rfl)) ?_
      subst hc
      match r with
      | [] =>
        refine Xc_h ?_; (conv => whnf); refine Hid.seq ?_; refine Hid.seq ?_; refine Hid.reg ?_; (conv => whnf); refine Hid.cond rfl ?_; refine SIf.y Ty.mixed (by exact rfl) ?_; refine Xc_h ?_; (conv => whnf); refine Hid.seq ?_; refine Hid.reg ?_; (conv => whnf); refine Hid.ret ?_; (conv => whnf)
        have hn : unqL s = none := by rw [← hu, unqL]; rfl
        exact .p hm.le (unqR_none h37 hn)
      | [a] =>
        refine Xc_h ?_; (conv => whnf); refine Hid.seq ?_; refine Hid.seq ?_; refine Hid.reg ?_; (conv => whnf); refine Hid.cond rfl ?_; refine SIf.y Ty.mixed (by exact rfl) ?_; refine Xc_h ?_; (conv => whnf); refine Hid.seq ?_; refine Hid.reg ?_; (conv => whnf); refine Hid.ret ?_; (conv => whnf)
        have hn : unqL s = none := by rw [← hu, unqL]; rfl
        exact .p hm.le (unqR_none h37 hn)
      | a :: b :: r' =>
        have hlt : decide (((a :: b :: r').length : Int) < 2) = false := decide_eq_false (by simp only [List.length_cons]; omega)
        have hcut2 : List.drop ((2 : Int)).toNat (List.take (((a :: b :: r').length : Nat) : Int).toNat (a :: b :: r')) = r' := by
          rw [Int.toNat_natCast, List.take_length]; rfl
        rw [unqL, if_pos rfl] at hu
        refine Xc_h ?_; (conv => whnf); refine Hid.seq ?_; refine Hid.seq ?_; refine Hid.reg ?_; (conv => whnf); refine Hid.cond rfl ?_; refine SIf.n Ty.mixed (by exact rfl) ?_; refine Xc_h ?_; (conv => whnf); refine Hid.skip ?_; (conv => whnf); refine Hid.seq ?_; refine Hid.regD ?_; refine SReg.t 0 [] (by decide +kernel) ?_; (conv => whnf)
        refine ⟨_, ⟨by first | omega | (simp only [List.length_cons, List.length_nil]; omega) | fail, by exact rfl⟩, ?_⟩
        (conv => whnf); refine SCall.p (by exact ixByte_any w0 digitsL a) ?_; (conv => whnf)
        refine ⟨_, ⟨by first | omega | (simp only [List.length_cons, List.length_nil]; omega) | fail, by exact rfl⟩, ?_⟩
        (conv => whnf); refine SCall.p (by exact ixByte_any w0 digitsL b) ?_; (conv => whnf); refine Hid.seq ?_; refine Hid.seq ?_; refine Hid.reg ?_; (conv => whnf); refine And.intro (by omega) ?_; (conv => whnf); refine ⟨_, rfl, ?_⟩; (conv => whnf); refine ⟨_, rfl, ?_⟩; (conv => whnf); refine ⟨_, wrap_u8 _, ?_⟩; (conv => whnf); refine Hid.seq ?_; refine Hid.reg ?_; (conv => whnf)
        by_cases hneg : min (Lib.indexByte digitsL a) (Lib.indexByte digitsL b) < 0
        · have d1 : decide (min (Lib.indexByte digitsL a) (Lib.indexByte digitsL b) < 0) = true := decide_eq_true hneg
          refine SCond.y (by assumption) ?_; (conv => whnf); refine SCond.y (by assumption) ?_; (conv => whnf); refine SPick.y (by assumption) ?_; (conv => whnf); refine Hid.cond rfl ?_; refine SIf.y Ty.mixed (by exact rfl) ?_; refine Xc_h ?_; (conv => whnf); refine Hid.seq ?_; refine Hid.reg ?_; (conv => whnf); refine Hid.ret ?_; (conv => whnf)
          have hbad : ¬ (0 ≤ digI a ∧ 0 ≤ digI b ∧ plainB (hexB a b) = false) := fun h => by
            have h1 : 0 ≤ Lib.indexByte digitsL a := h.1
            have h2 : 0 ≤ Lib.indexByte digitsL b := h.2.1
            omega
          rw [if_neg hbad] at hu
          have hn : unqL s = none := by rw [← hu]; rfl
          exact .p hm.le (unqR_none h37 hn)
        · have d1 : decide (min (Lib.indexByte digitsL a) (Lib.indexByte digitsL b) < 0) = false := decide_eq_false hneg
          have ha : 0 ≤ digI a := by show 0 ≤ Lib.indexByte digitsL a; omega
          have hb : 0 ≤ digI b := by show 0 ≤ Lib.indexByte digitsL b; omega
          obtain ⟨a1, _, a3⟩ := dig_ix ha
          obtain ⟨b1, _, b3⟩ := dig_ix hb
          have hbyte : Al.byteOf (IntKind.i64.wrap ((BitVec.ofInt IntKind.i64.bits (IntKind.i64.wrap (Lib.indexByte digitsL a * 2 ^ min (4 : Int).toNat IntKind.i64.bits)) ||| BitVec.ofInt IntKind.i64.bits (Lib.indexByte digitsL b)).toNat : Int)) = hexB a b := by
            rw [show Lib.indexByte digitsL a = (digN a : Int) from a3, show Lib.indexByte digitsL b = (digN b : Int) from b3]
            exact or_shl a1 b1
          rw [hbyte]
          refine SCond.n (by assumption) ?_; (conv => whnf); refine SCond.n (by assumption) ?_; (conv => whnf); refine SCall.p (by exact plain_any w0 (hexB a b)) ?_; (conv => whnf); refine SPick.n (by assumption) ?_; (conv => whnf); refine Hid.cond rfl ?_
          cases hp : plainB (hexB a b) with
          | true =>
            refine SIf.y Ty.mixed rfl ?_; refine Xc_h ?_; (conv => whnf); refine Hid.seq ?_; refine Hid.reg ?_; (conv => whnf); refine Hid.ret ?_; (conv => whnf)
            skip
            rw [if_neg (by rw [hp]; simp)] at hu
            have hn : unqL s = none := by rw [← hu]; rfl
            exact .p hm.le (unqR_none h37 hn)
          | false =>
            rw [if_pos ⟨ha, hb, hp⟩] at hu
            refine SIf.n Ty.mixed rfl ?_; refine Xc_h ?_; (conv => whnf); refine Hid.skip ?_; (conv => whnf); refine Hid.reg ?_; (conv => whnf); refine And.intro (by simp only [List.length_cons, List.length_nil]; omega) ?_; (conv => whnf); refine Hid.reg ?_; (conv => whnf)
            refine SApp.c rfl rfl (by assumption) (by simp only [List.length_cons, List.length_nil, bytes_len]; simp only [List.length_cons] at hl; omega) fun tk1 σ1 hm => ?_
            (conv => whnf)
            refine ⟨(r', done ++ [hexB a b], tk1), by show r'.length < (37 :: a :: b :: r').length; simp; omega, ?_, .none _, by simp at hl ⊢; omega, by rw [← hu, Option.map_map]; congr 1; funext x; simp, by assumption⟩
            show xWeak [(0, .str r'), (4, .slc 1 (aBytes (done ++ [hexB a b])) tk1)] _
            rw [← bytes_app]
            refine ⟨?_, ?_⟩
            · exact Weak.of_eq (congrArg AV.str hcut2.symm)
            · repeat (first | exact trivial | refine ⟨by first | trivial | exact Weak.refl _ | exact Weak.tok _ _ _ | exact Weak.of_eq (congrArg (AV.int _) (by omega)) | exact Weak.of_eq (congrArg AV.bool (by fail)) | exact Weak.nils _ _ (.inr rfl), ?_⟩)
    · refine SIf.n Ty.mixed (decide_eq_false fun e => hc (UInt8.toNat_inj.1 (by rw [show (37 : UInt8).toNat = 37 from rfl]; omega))) ?_
      rw [unqL_plain hc] at hu
      refine Xc_h ?_; (conv => whnf); refine Hid.seq ?_; refine Hid.reg ?_; (conv => whnf); refine SCall.p (by exact plain_any w0 c) ?_; (conv => whnf); refine Hid.cond rfl ?_
      cases hp : plainB c with
      | false =>
        refine SIf.y Ty.mixed rfl ?_; refine Xc_h ?_; (conv => whnf); refine Hid.seq ?_; refine Hid.reg ?_; (conv => whnf); refine Hid.ret ?_; (conv => whnf)
        skip
        rw [hp] at hu
        have hn : unqL s = none := by rw [← hu]; rfl
        exact .p hm.le (unqR_none h37 hn)
      | true =>
        refine SIf.n Ty.mixed rfl ?_; refine Xc_h ?_; (conv => whnf); refine Hid.skip ?_; (conv => whnf); refine Hid.reg ?_; (conv => whnf)
        refine SApp.c rfl rfl (by assumption) (by simp only [List.length_cons, List.length_nil, bytes_len]; simp only [List.length_cons] at hl; omega) fun tk1 σ1 hm => ?_
        (conv => whnf)
        rw [hp, if_pos rfl] at hu
        refine ⟨(r, done ++ [c], tk1), by show r.length < (c :: r).length; simp, ?_, .none _, by simp at hl ⊢; omega, by rw [← hu, Option.map_map]; congr 1; funext x; simp, by assumption⟩
        show xWeak [(0, .str r), (4, .slc 1 (aBytes (done ++ [c])) tk1)] _
        rw [← bytes_app]
        repeat (first | exact trivial | refine ⟨by first | trivial | exact Weak.refl _ | exact Weak.tok _ _ _ | exact Weak.of_eq (congrArg (AV.int _) (by omega)) | exact Weak.of_eq (congrArg AV.bool (by fail)) | exact Weak.nils _ _ (.inr rfl), ?_⟩)
end Go.Proofs.YtjcikceophcooaaDoor
end
