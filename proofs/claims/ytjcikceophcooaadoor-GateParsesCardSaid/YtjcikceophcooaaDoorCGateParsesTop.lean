/- The law GateParses returns true for every input, and its arguments read as before: the tied card. No conditions. This is part 7 of 7 of its proof; the parts are read in order. No conditions. -/
import Derived.Test.YtjcikceophcooaaDoorCGateParsesP6
import Derived.Test.YtjcikceophcooaaDoorRows
import Derived.SizedLaws
import Derived.ChangeSame
import Derived.ChangeVars
import Derived.ChangeMaps5
import Derived.JoinedOf
import Derived.JoinedAt
import Derived.RowKit
import Derived.RowKit3
import Derived.RowKitTokens
import Derived.LaidLaws
import Derived.LaidHandle
import Derived.Lib.LaidIn
import Derived.Lib.LaidTab
import Derived.Stop.LaidErr
import Derived.Test.YtjcikceophcooaaDoorCards
import Derived.Test.YtjcikceophcooaaDoorTie
import Derived.SevenTiedAt
import Derived.OpenShut
import Derived.ShutString
import Derived.ChangeOld
import Derived.ProofKit
section
set_option linter.unusedVariables false
set_option maxRecDepth 100000
namespace Go.Proofs.YtjcikceophcooaaDoor
open Go.ChangeShapes Go.WideShapes Go.ChangeAt Go.RowKit
open Go.ChangeMaps (open_string shut_string)
def laid5 : List (String × DataW Unit) := [("math/bits.deBruijn32tab", Rows.laid_math_bits_deBruijn32tab), ("math/bits.deBruijn64tab", Rows.laid_math_bits_deBruijn64tab), ("internal/strconv.uint64pow10", Rows.laid_internal_strconv_uint64pow10), ("unicode/utf8.acceptRanges", Rows.laid_unicode_utf8_acceptRanges), ("strconv.ErrRange", Rows.laid_strconv_ErrRange), ("strconv.ErrSyntax", Rows.laid_strconv_ErrSyntax), ("unicode/utf8.first", Rows.laid_unicode_utf8_first)]
theorem own : ownKnob Tryd.prog.godebug = none := by kernel_rfl
def litOf : DataW Unit → Value
  | .lit (.int k n) => .int k n
  | _ => .bool false
def tabOf : DataW Unit → Array Value
  | .agg l => (l.map litOf).toArray
  | _ => #[]
def tabOf2 : DataW Unit → Array Value
  | .agg l => (l.flatMap fun d => (tabOf d).toList).toArray
  | _ => #[]
abbrev synS : ByteArray := { data := #[105, 110, 118, 97, 108, 105, 100, 32, 115, 121, 110, 116, 97, 120] }
abbrev rngS : ByteArray := { data := #[118, 97, 108, 117, 101, 32, 111, 117, 116, 32, 111, 102, 32, 114, 97, 110, 103, 101] }
noncomputable def low : Nat := (World.holding Tryd.prog default ⟨#[], #[], []⟩).heap.size
noncomputable def setBlk (h : Array Obj) (g : Nat) (cs : Array Value) : Array Obj := h.modify g fun
  | .cells _ t frozen => .cells cs t frozen
  | o => o
noncomputable def laidWorld (os : Os) : World :=
  let w0 := World.holding Tryd.prog os ⟨#[.cells #[.string synS] 142, .cells #[.string rngS] 142], #[], []⟩
  { w0 with heap := setBlk (setBlk (setBlk (setBlk (setBlk (setBlk (setBlk w0.heap 4 #[.iface 140 (.pointer (some ⟨low, 0, none⟩))]) 5 #[.iface 140 (.pointer (some ⟨low + 1, 0, none⟩))]) 1 (tabOf Rows.laid_internal_strconv_uint64pow10)) 6 (tabOf Rows.laid_math_bits_deBruijn32tab)) 7 (tabOf Rows.laid_math_bits_deBruijn64tab)) 3 (tabOf2 Rows.laid_unicode_utf8_acceptRanges)) 2 (tabOf Rows.laid_unicode_utf8_first) }
theorem laid_met (os : Os) (args : Array Value) : laidMet Tryd.prog laid5 ((laidWorld os).forCall (fun _ _ => 0) ⟨#[], args, []⟩).memory :=
  (LaidIn.of_run [6, 7, 1, 3, 5, 4, 2, low, low + 1] 400 (by kernel_rfl) (by kernel_rfl) (by kernel_rfl) (by kernel_rfl)).met
theorem g2 : Tryd.prog.globalNamed "internal/strconv.uint64pow10" = some 1 := by kernel_rfl
theorem g2t : (Tryd.prog.globals[1]?).map (·.type) = some 115 := by kernel_rfl
theorem laid_third {P : Program} {W : World} {a b : String × DataW Unit} {name : String} {k : IntKind} {zs : List Int} {rest : List (String × DataW Unit)} {g : Nat} {t e : TypeId} {n : Nat}
    (hg : P.globalNamed name = some g) (hty : (P.globals[g]?).map (·.type) = some t) (ht : P.underlying t = some (.array n e)) (he : P.underlying e = some (.int k)) (hce : P.cellsOf e = 1) (hct : P.cellsOf t = n)
    (h : laidMet P (a :: b :: (name, Lib.tabData k zs) :: rest) W) : Lib.TabIs P W name k zs := by
  obtain ⟨ps, ⟨_, _, _, _, _, _, _, _, _, _, ⟨_, _, _, _, _, _, _, _, _, _, ⟨g', t', cs, fuel, p, q, hg', ht', hvar, hd, _, _⟩, _⟩, _⟩, _⟩ := h
  obtain rfl := Option.some.inj (hg.symm.trans hg')
  obtain rfl := Option.some.inj (hty.symm.trans ht')
  unfold Lib.TabIs
  rw [hvar, ← Lib.cells_of_tab ht he hce hct hd]
theorem var_cell {W : World} {n : String} {g : Nat} {v : Value} (hg : Tryd.prog.globalNamed n = some g) (h : W.var? Tryd.prog n = some #[v]) : W.cell? ⟨g, 0, none⟩ = some v := by
  have h0 := World.var?_cell hg h 0
  simpa using h0
theorem star : "*" ++ "errors.errorString" = "*errors.errorString" := by decide
theorem errP (u : TypeId) (h : Tryd.prog.typeName? 3 u = some "*errors.errorString") : u = 140 :=
  typeName_ptr_named (nm := "errors.errorString") (by rw [star]; kernel_rfl) (by kernel_rfl) (by decide) u (by rw [star]; exact h)
theorem laid_tab {W : World} (h : laidMet Tryd.prog laid5 W) : Laid W := by
  refine ⟨laid_third g2 g2t Tryd.underlying115 Tryd.underlying103 (by kernel_rfl) (by kernel_rfl) h, ?_, ?_⟩
  · obtain ⟨a, s, hv, _⟩ := laid_sentinel (g := 4) (ti := 55) (tp := 140) (te := 142) (ts := 9) h.tail.tail.tail.tail.tail (by kernel_rfl) (by kernel_rfl) Tryd.underlying55 errP Tryd.underlying140 Tryd.underlying142 rfl rfl Tryd.underlying9 (by kernel_rfl) (by kernel_rfl)
    exact ⟨_, _, var_cell (by kernel_rfl) hv⟩
  · obtain ⟨a, s, hv, _⟩ := laid_sentinel (g := 5) (ti := 55) (tp := 140) (te := 142) (ts := 9) h.tail.tail.tail.tail (by kernel_rfl) (by kernel_rfl) Tryd.underlying55 errP Tryd.underlying140 Tryd.underlying142 rfl rfl Tryd.underlying9 (by kernel_rfl) (by kernel_rfl)
    exact ⟨_, _, var_cell (by kernel_rfl) hv⟩
end Go.Proofs.YtjcikceophcooaaDoor
end
section
set_option linter.unusedVariables false
namespace Go.Proofs.YtjcikceophcooaaDoor
open Go.ChangeShapes Go.WideShapes Go.ChangeAt Go.RowKit Go.Al
open Go.ChangeMaps (open_string shut_string)
theorem gateParses_laidOut : laidOutB Tryd.prog = true := by kernel_rfl
set_option maxRecDepth 100000 in
theorem gateParses_lifted (os : Os) (started : os.Started) (H : Type) (enc : TypeId × Value → H) :
    ReturnsInHanded {} Tryd.checked os 5 .any (fun w args => (Rows.gateParsesSpec.pre enc Tryd.prog Tryd.f5 Rows.gateParsesRow.domain false w args ∧ laidMet Tryd.prog laid5 w) ∧ sizedMet enc Tryd.prog Tryd.f5 (OpenSpec.ofChange Rows.gateParsesSpec) false w args)
      (Rows.gateParsesSpec.post enc Tryd.prog Tryd.f5 false true false false) := by
  refine returnsInHanded_of_change_and (C := Tryd.checked) (X := fun w _ => laidMet Tryd.prog laid5 w) (fun _ _ _ hh h => h.of_heap hh) own started (by kernel_rfl) Tryd.func5
    (ChangeSpec.witness_at (enc := enc) (C := Tryd.checked) (os := os) (X := fun w _ => laidMet Tryd.prog laid5 w) false (laidWorld os) #[.string ⟨#[]⟩, .agg #[.int .i64 0, .int .i64 0, .int .i64 0, .int .i64 0, .string ⟨#[]⟩, .string ⟨#[]⟩, .string ⟨#[]⟩, .string ⟨#[]⟩, .string ⟨#[]⟩, .slice none 0 0], .slice none 0 0, .int .u16 0, .int .u8 0] 8 rfl (by kernel_rfl) (by kernel_rfl) (by kernel_rfl) (by kernel_rfl) (by kernel_rfl) (laid_met os _)) ?_
  intro W base args ds gs before hval0 hW _ hsz0 hL _
  have hsz : (DataW.weightsEach Tryd.prog (Tryd.f5.params.toList ++ Rows.gateParsesSpec.plain.varTypes Tryd.prog) (ds ++ gs)).all (· ≤ reachBytes) = true := hsz0
  clear hsz0
  have hval : ∀ (j : Nat) t v, Tryd.f5.params[j]? = some t → args[j]? = some v → Value.okWide Tryd.prog W .any base t v := hval0
  have hW' := hW
  obtain ⟨p, q, hA0, hV, rfl, hfz, hnd⟩ := hW
  have hA : DataW.TrodAll enc Tryd.prog W 0 (fun _ => true) true Tryd.f5.params.toList args.toList ds p := hA0
  rw [Tryd.params5] at hA hval hsz
  obtain ⟨v0, vs0, d0, ds0, p0, q0, hargs, rfl, rfl, h0, r0⟩ := trodAll_cons hA
  obtain ⟨v1, vs1, d1, ds1, p1, q1, rfl, rfl, rfl, h1, r1⟩ := trodAll_cons r0
  obtain ⟨v2, vs2, d2, ds2, p2, q2, rfl, rfl, rfl, h2, r2⟩ := trodAll_cons r1
  obtain ⟨v3, vs3, d3, ds3, p3, q3, rfl, rfl, rfl, h3, r3⟩ := trodAll_cons r2
  obtain ⟨v4, vs4, d4, ds4, p4, q4, rfl, rfl, rfl, h4, r4⟩ := trodAll_cons r3
  obtain ⟨rfl, rfl, rfl⟩ := trodAll_nil r4
  obtain rfl : args = #[v0, v1, v2, v3, v4] := by cases args; simp_all
  obtain ⟨rfl, rfl⟩ := trodVars_none hV
  obtain ⟨a0, rfl, rfl, rfl, y0⟩ := open_string Tryd.underlying9 (hval 0 9 v0 rfl rfl) h0
  have w0 : a0.data.toList.length ≤ 1000000000000000 := by
    have h1 := sized_string hsz (j := 0) (t := 9) rfl rfl
    have h2 := reachBytes_lt
    have e3 : (2 : Nat) ^ 47 = 140737488355328 := by decide
    omega
  obtain ⟨a1, rfl, _⟩ := okWide_struct Tryd.underlying37 (hval 1 37 v1 rfl rfl)
  have k1 := h1
  have lt1 : ∀ x ∈ p1, x.block < W.heap.size := by obtain ⟨m, hm⟩ := k1; exact DataW.trod_lt m _ _ _ hm
  obtain ⟨c1, hq1, rel1⟩ := opens_op.argS h1 (lig_arg hsz (j := 1) rfl rfl)
  obtain ⟨a2, len2, cap2, rfl⟩ := okWide_slice Tryd.underlying26 (hval 2 26 v2 rfl rfl)
  have k2 := h2
  have lt2 : ∀ x ∈ p2, x.block < W.heap.size := by obtain ⟨m, hm⟩ := k2; exact DataW.trod_lt m _ _ _ hm
  obtain ⟨c2, hc2, rel2⟩ : ∃ c : List UInt8, (c.length = len2 ∧ len2 ≤ 9223372036854775807) ∧ Rel (Al.G0 W) W (.slc 1 (aBytes c) .no) (.slice a2 len2 cap2) := by
    obtain ⟨fuel, hf⟩ := h2
    rcases open_ints Tryd.underlying26 Tryd.underlying5 (by kernel_rfl) hf with ⟨hcs, _⟩ | ⟨x, l, cc, zs, hcs, _, hl, hm, hz, hx, hcell, hwz⟩
    · simp [Value.cells] at hcs
      obtain ⟨rfl, rfl, rfl⟩ := hcs
      obtain ⟨c, h1, h2⟩ := bytes_rel (W := W) (a := none) (len := 0) (cap := 0) (zs := []) (.inl ⟨rfl, rfl, rfl, rfl⟩)
      exact ⟨c, ⟨h1, by omega⟩, h2⟩
    · simp [Value.cells] at hcs
      obtain ⟨rfl, rfl, rfl⟩ := hcs
      have hml : maxLen = 9223372036854775807 := rfl
      have hzl : zs.length = cap2 := by simpa using hz
      by_cases h0 : zs.length = 0
      · have hz0 : zs = [] := List.eq_nil_of_length_eq_zero h0
        refine ⟨[], ⟨by simp; omega, by omega⟩, ?_⟩
        have e1 : len2 = 0 := by omega
        have e2 : cap2 = 0 := by omega
        subst e1; subst e2
        exact .slc (vs := []) rfl (Nat.le_refl _) (Nat.zero_le _) (fun y hy => by cases hy) .nil (fun k v hk => by simp at hk) trivial
      · have hblk : x.block < W.heap.size := by
          have h1 := hcell 0 (by omega)
          simp only [Addr.add, if_true, World.cell?] at h1
          split at h1
          · rename_i hb; exact lt_of_get hb
          · cases h1
        obtain ⟨c, h1, h2⟩ := bytes_rel (W := W) (a := some x) (len := len2) (cap := cap2) (zs := zs) (.inr ⟨x, rfl, hblk, hl, hm, by omega, hcell, fun n hn => by
          have := hwz n hn
          have h2 : 0 ≤ n ∧ n ≤ 255 := by simpa [Lit.wf, IntKind.min, IntKind.max, IntKind.signed, IntKind.bits] using this
          omega⟩)
        exact ⟨c, ⟨h1, by omega⟩, h2⟩
  obtain ⟨a3, rfl, rfl, rfl, w3⟩ := open_int Tryd.underlying22 (hval 3 22 v3 rfl rfl) h3
  obtain ⟨u3, hu3, hv3⟩ : ∃ u : Nat, (u : Int) = a3 ∧ u < 65536 := by
    have hb : 0 ≤ a3 ∧ a3 ≤ 65535 := by simpa [Lit.wf, IntKind.min, IntKind.max, IntKind.signed, IntKind.bits] using w3
    exact ⟨a3.toNat, by omega, by omega⟩
  subst hu3
  obtain ⟨a4, rfl, rfl, rfl, w4⟩ := open_int Tryd.underlying5 (hval 4 5 v4 rfl rfl) h4
  obtain ⟨u4, hu4⟩ : ∃ u : UInt8, (u.toNat : Int) = a4 := by
    have hb : 0 ≤ a4 ∧ a4 ≤ 255 := by simpa [Lit.wf, IntKind.min, IntKind.max, IntKind.signed, IntKind.bits] using w4
    exact ⟨UInt8.ofNat a4.toNat, by simp; omega⟩
  subst hu4
  clear hA0 hval0 hsz
  have hcall := law_calls (gateParses_any W (laid_tab hL) a0.data.toList c1 c2 .no u3 u4 (by omega) hq1 (by omega) (by omega) St.empty) (.cons (str_rel a0) (.cons (show Rel (Al.G0 W) W (eOp c1) _ from rel1) (.cons rel2 (.cons (.int _ _) (.cons (.int _ _) .nil)))))
  refine hcall.mono fun e W' ⟨he, bel⟩ => ?_
  subst he
  exact ⟨_, rfl, _, _, _, [], _, [], hW', trodAll_mk1 (shut_bool Tryd.underlying4 _), (trodAll_cons_mk (shut_string Tryd.underlying9 y0) (trodAll_cons_mk (Below.trod gateParses_laidOut (by kernel_rfl) (of_decide_eq_true (by kernel_rfl)) k1 bel lt1) (trodAll_cons_mk (Below.trod gateParses_laidOut (by kernel_rfl) (of_decide_eq_true (by kernel_rfl)) k2 bel lt2) (trodAll_cons_mk (shut_int Tryd.underlying22 w3) (trodAll_cons_mk (shut_int Tryd.underlying5 w4) trodAll_mk0))))), rfl, bel.frame _, fun h => by cases h⟩
theorem gateParses_row : Rows.GateParsesSaid :=
  OpenClaim.holds_of_wide 5 Tryd.f5 rfl rfl rfl rfl rfl rfl rfl ⟨rfl, rfl, rfl, rfl, rfl⟩ rfl rfl rfl rfl rfl (by kernel_rfl) Tryd.func5 (by kernel_rfl)
    (of_decide_eq_true (by kernel_rfl)) (by unfold Func.isWrapper; first | (rw [if_pos (by decide +kernel)]; kernel_rfl) | (rw [if_neg (by decide +kernel)]; exact ⟨rfl, rfl⟩))
    (fun os started H enc _ => gateParses_lifted os started H enc)
theorem gateParses_holds : Rows.GateParsesCardSaid :=
  Claim7.holds_tied_plain_at .later [] [.data, .data, .data, .data, .sentinel, .sentinel, .pinned] true (true, "8d8079ec6f68ba3660e2aaae06f833dbcdf7d2b354d9083897cc6e223601f507") true
    gateParses_row (fun _ h => by cases h) (by kernel_rfl) (fun _ h => by cases h) gateParses_row_tie rfl ⟨rfl, rfl⟩ (by kernel_rfl) rfl
    (fun f fn hf hfn => by
      obtain rfl : f = 5 := Option.some.inj ((show Tryd.prog.funcNamed "roadstead/roadsteadlaw22.GateParses" = some 5 by kernel_rfl).symm.trans hf) |>.symm
      obtain rfl : fn = Tryd.f5 := (Option.some.inj (Tryd.func5.symm.trans hfn)).symm
      exact ⟨by kernel_rfl, fun j t ht => by
        rw [Tryd.params5] at ht
        have hmem : t ∈ [9, 37, 26, 22, 5] := by
          have := Array.mem_of_getElem? ht
          simpa using this
        have hall : ([9, 37, 26, 22, 5].all fun t => Tryd.prog.wantsStandIn t == false) = true := by kernel_rfl
        have hf : Tryd.prog.wantsStandIn t = false := by simpa using List.all_eq_true.1 hall t hmem
        exact hf⟩)
    (by kernel_rfl)
#print axioms gateParses_holds
end Go.Proofs.YtjcikceophcooaaDoor
end
