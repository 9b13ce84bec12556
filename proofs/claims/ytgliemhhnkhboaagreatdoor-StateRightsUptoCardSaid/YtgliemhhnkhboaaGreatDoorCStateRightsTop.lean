/- The law StateRights returns true for every input, and its arguments read as before: the tied card. No conditions. This is part 7 of 7 of its proof; the parts are read in order. No conditions. -/
import Derived.Test.YtgliemhhnkhboaaGreatDoorCStateRightsP6
import Derived.Test.YtgliemhhnkhboaaGreatDoorRows
import Derived.SizedLaws
import Derived.ChangeSame
import Derived.ChangeVars
import Derived.ChangeMaps5
import Derived.JoinedOf
import Derived.JoinedAt
import Derived.RowKit
import Derived.RowKit3
import Derived.RowKitTokens
import Derived.LaidLaws
import Derived.LaidHandle
import Derived.Lib.LaidIn
import Derived.Lib.LaidTab
import Derived.Stop.LaidErr
import Derived.Test.YtgliemhhnkhboaaGreatDoorCards
import Derived.Test.YtgliemhhnkhboaaGreatDoorTie
import Derived.SevenTiedAt
import Derived.OpenShut
import Derived.ShutString
import Derived.ChangeOld
import Derived.ProofKit
import Derived.Deep.DeepHandedRow
section
set_option linter.unusedVariables false
set_option maxRecDepth 100000
namespace Go.Proofs.YtgliemhhnkhboaaGreatDoor
open Go.ChangeShapes Go.WideShapes Go.ChangeAt Go.RowKit
open Go.ChangeMaps (open_string shut_string)
def laid5 : List (String × DataW Unit) := [("math/bits.deBruijn32tab", Rows.laid_math_bits_deBruijn32tab), ("math/bits.deBruijn64tab", Rows.laid_math_bits_deBruijn64tab), ("internal/strconv.uint64pow10", Rows.laid_internal_strconv_uint64pow10), ("unicode/utf8.acceptRanges", Rows.laid_unicode_utf8_acceptRanges), ("strconv.ErrRange", Rows.laid_strconv_ErrRange), ("strconv.ErrSyntax", Rows.laid_strconv_ErrSyntax), ("unicode/utf8.first", Rows.laid_unicode_utf8_first)]
theorem own : ownKnob Tryz.prog.godebug = none := by kernel_rfl
def litOf : DataW Unit → Value
  | .lit (.int k n) => .int k n
  | _ => .bool false
def tabOf : DataW Unit → Array Value
  | .agg l => (l.map litOf).toArray
  | _ => #[]
def tabOf2 : DataW Unit → Array Value
  | .agg l => (l.flatMap fun d => (tabOf d).toList).toArray
  | _ => #[]
abbrev synS : ByteArray := { data := #[105, 110, 118, 97, 108, 105, 100, 32, 115, 121, 110, 116, 97, 120] }
abbrev rngS : ByteArray := { data := #[118, 97, 108, 117, 101, 32, 111, 117, 116, 32, 111, 102, 32, 114, 97, 110, 103, 101] }
noncomputable def low : Nat := (World.holding Tryz.prog default ⟨#[], #[], []⟩).heap.size
noncomputable def setBlk (h : Array Obj) (g : Nat) (cs : Array Value) : Array Obj := h.modify g fun
  | .cells _ t frozen => .cells cs t frozen
  | o => o
noncomputable def laidWorld (os : Os) : World :=
  let w0 := World.holding Tryz.prog os ⟨#[.cells #[.string synS] 135, .cells #[.string rngS] 135], #[], []⟩
  { w0 with heap := setBlk (setBlk (setBlk (setBlk (setBlk (setBlk (setBlk w0.heap 0 #[.iface 133 (.pointer (some ⟨low, 0, none⟩))]) 1 #[.iface 133 (.pointer (some ⟨low + 1, 0, none⟩))]) 3 (tabOf Rows.laid_internal_strconv_uint64pow10)) 6 (tabOf Rows.laid_math_bits_deBruijn32tab)) 7 (tabOf Rows.laid_math_bits_deBruijn64tab)) 5 (tabOf2 Rows.laid_unicode_utf8_acceptRanges)) 4 (tabOf Rows.laid_unicode_utf8_first) }
theorem laid_met (os : Os) (args : Array Value) : laidMet Tryz.prog laid5 ((laidWorld os).forCall (fun _ _ => 0) ⟨#[], args, []⟩).memory :=
  (LaidIn.of_run [6, 7, 3, 5, 1, 0, 4, low, low + 1] 400 (by kernel_rfl) (by kernel_rfl) (by kernel_rfl) (by kernel_rfl)).met
theorem g2 : Tryz.prog.globalNamed "internal/strconv.uint64pow10" = some 3 := by kernel_rfl
theorem g2t : (Tryz.prog.globals[3]?).map (·.type) = some 148 := by kernel_rfl
theorem laid_third {P : Program} {W : World} {a b : String × DataW Unit} {name : String} {k : IntKind} {zs : List Int} {rest : List (String × DataW Unit)} {g : Nat} {t e : TypeId} {n : Nat}
    (hg : P.globalNamed name = some g) (hty : (P.globals[g]?).map (·.type) = some t) (ht : P.underlying t = some (.array n e)) (he : P.underlying e = some (.int k)) (hce : P.cellsOf e = 1) (hct : P.cellsOf t = n)
    (h : laidMet P (a :: b :: (name, Lib.tabData k zs) :: rest) W) : Lib.TabIs P W name k zs := by
  obtain ⟨ps, ⟨_, _, _, _, _, _, _, _, _, _, ⟨_, _, _, _, _, _, _, _, _, _, ⟨g', t', cs, fuel, p, q, hg', ht', hvar, hd, _, _⟩, _⟩, _⟩, _⟩ := h
  obtain rfl := Option.some.inj (hg.symm.trans hg')
  obtain rfl := Option.some.inj (hty.symm.trans ht')
  unfold Lib.TabIs
  rw [hvar, ← Lib.cells_of_tab ht he hce hct hd]
theorem var_cell {W : World} {n : String} {g : Nat} {v : Value} (hg : Tryz.prog.globalNamed n = some g) (h : W.var? Tryz.prog n = some #[v]) : W.cell? ⟨g, 0, none⟩ = some v := by
  have h0 := World.var?_cell hg h 0
  simpa using h0
theorem star : "*" ++ "errors.errorString" = "*errors.errorString" := by decide
theorem errP (u : TypeId) (h : Tryz.prog.typeName? 3 u = some "*errors.errorString") : u = 133 :=
  typeName_ptr_named (nm := "errors.errorString") (by rw [star]; kernel_rfl) (by kernel_rfl) (by decide) u (by rw [star]; exact h)
theorem laid_tab {W : World} (h : laidMet Tryz.prog laid5 W) : Laid W := by
  refine ⟨laid_third g2 g2t Tryz.underlying148 Tryz.underlying115 (by kernel_rfl) (by kernel_rfl) h, ?_, ?_⟩
  · obtain ⟨a, s, hv, _⟩ := laid_sentinel (g := 0) (ti := 69) (tp := 133) (te := 135) (ts := 9) h.tail.tail.tail.tail.tail (by kernel_rfl) (by kernel_rfl) Tryz.underlying69 errP Tryz.underlying133 Tryz.underlying135 rfl rfl Tryz.underlying9 (by kernel_rfl) (by kernel_rfl)
    exact ⟨_, _, var_cell (by kernel_rfl) hv⟩
  · obtain ⟨a, s, hv, _⟩ := laid_sentinel (g := 1) (ti := 69) (tp := 133) (te := 135) (ts := 9) h.tail.tail.tail.tail (by kernel_rfl) (by kernel_rfl) Tryz.underlying69 errP Tryz.underlying133 Tryz.underlying135 rfl rfl Tryz.underlying9 (by kernel_rfl) (by kernel_rfl)
    exact ⟨_, _, var_cell (by kernel_rfl) hv⟩
end Go.Proofs.YtgliemhhnkhboaaGreatDoor
end
section
set_option linter.unusedVariables false
namespace Go.Proofs.YtgliemhhnkhboaaGreatDoor
open Go.ChangeShapes Go.WideShapes Go.ChangeAt Go.RowKit Go.Al
open Go.ChangeMaps (open_string shut_string)
theorem stateRights_laidOut : laidOutB Tryz.prog = true := by kernel_rfl
theorem stateRights_reads (os : Os) {H : Type} (enc : TypeId × Value → H) : ∃ places, DataW.whole enc Tryz.prog ((laidWorld os).forCall (fun _ _ => 0) ⟨#[], #[.agg #[.int .i64 0, .int .i64 0, .int .i64 0, .slice none 0 0], .int .i64 0, .int .i64 0, .slice none 0 0, .int .u8 0, .int .i64 0], []⟩).memory Tryz.f3.params.toList Rows.stateRightsSpec.vars false (#[.agg #[.int .i64 0, .int .i64 0, .int .i64 0, .slice none 0 0], .int .i64 0, .int .i64 0, .slice none 0 0, .int .u8 0, .int .i64 0] : Array Value).toList 8 = some ([.agg [.lit (.int .i64 0), .lit (.int .i64 0), .lit (.int .i64 0), .nil], .lit (.int .i64 0), .lit (.int .i64 0), .nil, .lit (.int .u8 0), .lit (.int .i64 0)], [], places) := ⟨[], by kernel_rfl⟩
set_option maxRecDepth 100000 in
theorem stateRights_lifted (os : Os) (started : os.Started) (H : Type) (enc : TypeId × Value → H) (F : Stop.Interp) :
    ReturnsInHanded {} Tryz.checked os 3 .any ((Rows.OpenSpec.upto Rows.stateRightsSpec).preRow enc Tryz.prog Tryz.f3 Rows.stateRightsUptoRow.domain false Rows.stateRightsUptoRow.laid)
      (((Rows.OpenSpec.upto Rows.stateRightsSpec).at F).post enc Tryz.prog Tryz.f3 false true false false) := by
  obtain ⟨places, hx⟩ := stateRights_reads os enc
  refine returnsInHanded_of_row (C := Tryz.checked) (s := Rows.OpenSpec.upto Rows.stateRightsSpec) own started (by kernel_rfl) Tryz.func3
    (witness_row_at (enc := enc) (C := Tryz.checked) false (laidWorld os) #[.agg #[.int .i64 0, .int .i64 0, .int .i64 0, .slice none 0 0], .int .i64 0, .int .i64 0, .slice none 0 0, .int .u8 0, .int .i64 0] rfl (by kernel_rfl) (by kernel_rfl) (by kernel_rfl) (OpenSpec.preRow_of_cond 8 hx (by kernel_rfl) (fun k hk => by cases hk; kernel_rfl) (by kernel_rfl) (laid_met os _))) ?_
  intro W base args ds gs before hval0 hW _ hcond hsz0 hL0 _ _
  have hL : laidMet Tryz.prog laid5 W := hL0
  have hbk : Rows.uptoBulkAll (ds ++ gs) ≤ 1048576 := of_decide_eq_true (hcond _ rfl)
  have hsz : (DataW.weightsEach Tryz.prog (Tryz.f3.params.toList ++ Rows.stateRightsSpec.plain.varTypes Tryz.prog) (ds ++ gs)).all (· ≤ reachBytes) = true := hsz0
  clear hsz0
  have hval : ∀ (j : Nat) t v, Tryz.f3.params[j]? = some t → args[j]? = some v → Value.okWide Tryz.prog W .any base t v := hval0
  have hW' := hW
  obtain ⟨p, q, hA0, hV, rfl, hfz, hnd⟩ := hW
  have hA : DataW.TrodAll enc Tryz.prog W 0 (fun _ => true) true Tryz.f3.params.toList args.toList ds p := hA0
  rw [Tryz.params3] at hA hval hsz
  obtain ⟨v0, vs0, d0, ds0, p0, q0, hargs, rfl, rfl, h0, r0⟩ := trodAll_cons hA
  obtain ⟨v1, vs1, d1, ds1, p1, q1, rfl, rfl, rfl, h1, r1⟩ := trodAll_cons r0
  obtain ⟨v2, vs2, d2, ds2, p2, q2, rfl, rfl, rfl, h2, r2⟩ := trodAll_cons r1
  obtain ⟨v3, vs3, d3, ds3, p3, q3, rfl, rfl, rfl, h3, r3⟩ := trodAll_cons r2
  obtain ⟨v4, vs4, d4, ds4, p4, q4, rfl, rfl, rfl, h4, r4⟩ := trodAll_cons r3
  obtain ⟨v5, vs5, d5, ds5, p5, q5, rfl, rfl, rfl, h5, r5⟩ := trodAll_cons r4
  obtain ⟨rfl, rfl, rfl⟩ := trodAll_nil r5
  obtain rfl : args = #[v0, v1, v2, v3, v4, v5] := by cases args; simp_all
  obtain ⟨rfl, rfl⟩ := trodVars_none hV
  obtain ⟨a0, rfl, _⟩ := okWide_struct Tryz.underlying24 (hval 0 24 v0 rfl rfl)
  have k0 := h0
  have lt0 : ∀ x ∈ p0, x.block < W.heap.size := by obtain ⟨m, hm⟩ := k0; exact DataW.trod_lt m _ _ _ hm
  obtain ⟨c0, hq0, rel0⟩ := opensU_state.argS h0 (bulk_arg hbk (j := 0) rfl)
  obtain ⟨a1, rfl, rfl, rfl, w1⟩ := open_int Tryz.underlying3 (hval 1 3 v1 rfl rfl) h1
  obtain ⟨a2, rfl, rfl, rfl, w2⟩ := open_int Tryz.underlying3 (hval 2 3 v2 rfl rfl) h2
  obtain ⟨a3, len3, cap3, rfl⟩ := okWide_slice Tryz.underlying25 (hval 3 25 v3 rfl rfl)
  have k3 := h3
  have lt3 : ∀ x ∈ p3, x.block < W.heap.size := by obtain ⟨m, hm⟩ := k3; exact DataW.trod_lt m _ _ _ hm
  obtain ⟨c3, hc3, rel3⟩ : ∃ c : List UInt8, (c.length = len3 ∧ len3 ≤ 9223372036854775807) ∧ Rel (Al.G0 W) W (.slc 1 (aBytes c) .no) (.slice a3 len3 cap3) := by
    obtain ⟨fuel, hf⟩ := h3
    rcases open_ints Tryz.underlying25 Tryz.underlying5 (by kernel_rfl) hf with ⟨hcs, _⟩ | ⟨x, l, cc, zs, hcs, _, hl, hm, hz, hx, hcell, hwz⟩
    · simp [Value.cells] at hcs
      obtain ⟨rfl, rfl, rfl⟩ := hcs
      obtain ⟨c, h1, h2⟩ := bytes_rel (W := W) (a := none) (len := 0) (cap := 0) (zs := []) (.inl ⟨rfl, rfl, rfl, rfl⟩)
      exact ⟨c, ⟨h1, by omega⟩, h2⟩
    · simp [Value.cells] at hcs
      obtain ⟨rfl, rfl, rfl⟩ := hcs
      have hml : maxLen = 9223372036854775807 := rfl
      have hzl : zs.length = cap3 := by simpa using hz
      by_cases h0 : zs.length = 0
      · have hz0 : zs = [] := List.eq_nil_of_length_eq_zero h0
        refine ⟨[], ⟨by simp; omega, by omega⟩, ?_⟩
        have e1 : len3 = 0 := by omega
        have e2 : cap3 = 0 := by omega
        subst e1; subst e2
        exact .slc (vs := []) rfl (Nat.le_refl _) (Nat.zero_le _) (fun y hy => by cases hy) .nil (fun k v hk => by simp at hk) trivial
      · have hblk : x.block < W.heap.size := by
          have h1 := hcell 0 (by omega)
          simp only [Addr.add, if_true, World.cell?] at h1
          split at h1
          · rename_i hb; exact lt_of_get hb
          · cases h1
        obtain ⟨c, h1, h2⟩ := bytes_rel (W := W) (a := some x) (len := len3) (cap := cap3) (zs := zs) (.inr ⟨x, rfl, hblk, hl, hm, by omega, hcell, fun n hn => by
          have := hwz n hn
          have h2 : 0 ≤ n ∧ n ≤ 255 := by simpa [Lit.wf, IntKind.min, IntKind.max, IntKind.signed, IntKind.bits] using this
          omega⟩)
        exact ⟨c, ⟨h1, by omega⟩, h2⟩
  obtain ⟨a4, rfl, rfl, rfl, w4⟩ := open_int Tryz.underlying5 (hval 4 5 v4 rfl rfl) h4
  obtain ⟨u4, hu4⟩ : ∃ u : UInt8, (u.toNat : Int) = a4 := by
    have hb : 0 ≤ a4 ∧ a4 ≤ 255 := by simpa [Lit.wf, IntKind.min, IntKind.max, IntKind.signed, IntKind.bits] using w4
    exact ⟨UInt8.ofNat a4.toNat, by simp; omega⟩
  subst hu4
  obtain ⟨a5, rfl, rfl, rfl, w5⟩ := open_int Tryz.underlying3 (hval 5 3 v5 rfl rfl) h5
  clear hA0 hval0 hsz
  have hcall := law_calls (stateRights_row_any W (laid_tab hL) c0 a1 a2 c3 .no u4 a5 hq0 (int_in _ w2) (by omega) St.empty) (.cons (show Rel (Al.G0 W) W (eStt c0) _ from rel0) (.cons (.int _ _) (.cons (.int _ _) (.cons rel3 (.cons (.int _ _) (.cons (.int _ _) .nil))))))
  refine hcall.mono fun e W' ⟨he, bel⟩ => ?_
  subst he
  exact ⟨_, rfl, _, _, _, [], _, [], hW', trodAll_mk1 (shut_bool Tryz.underlying4 _), (trodAll_cons_mk (Below.trod stateRights_laidOut (by kernel_rfl) (of_decide_eq_true (by kernel_rfl)) k0 bel lt0) (trodAll_cons_mk (shut_int Tryz.underlying3 w1) (trodAll_cons_mk (shut_int Tryz.underlying3 w2) (trodAll_cons_mk (Below.trod stateRights_laidOut (by kernel_rfl) (of_decide_eq_true (by kernel_rfl)) k3 bel lt3) (trodAll_cons_mk (shut_int Tryz.underlying5 w4) (trodAll_cons_mk (shut_int Tryz.underlying3 w5) trodAll_mk0)))))), rfl, bel.frame _, fun h => by cases h⟩
theorem stateRights_row : Rows.StateRightsUptoSaid :=
  OpenClaim.holds_of_cond 3 Tryz.f3 rfl rfl rfl rfl rfl rfl rfl ⟨rfl, rfl, rfl, rfl, rfl⟩ rfl rfl rfl rfl rfl (by kernel_rfl) Tryz.func3 (by kernel_rfl)
    (of_decide_eq_true (by kernel_rfl)) (by unfold Func.isWrapper; first | (rw [if_pos (by decide +kernel)]; kernel_rfl) | (rw [if_neg (by decide +kernel)]; exact ⟨rfl, rfl⟩))
    (fun os started H enc _ F => by rw [OpenClaim.pre_eq_preRow]; exact stateRights_lifted os started H enc F)
theorem stateRights_holds : Rows.StateRightsUptoCardSaid :=
  Claim7.holds_tied_plain_at .later [] [.data, .data, .data, .data, .sentinel, .sentinel, .pinned] true (true, "5c2a815216a9a2494362b962ea13a635b45024aaeec3e505b200c6859afb3171") true
    stateRights_row (fun _ h => by cases h) (by kernel_rfl) (fun _ h => by cases h) stateRightsUpto_row_tie rfl ⟨rfl, rfl⟩ (by kernel_rfl) rfl
    (fun f fn hf hfn => by
      obtain rfl : f = 3 := Option.some.inj ((show Tryz.prog.funcNamed "roadstead/roadsteadlaw10.StateRights" = some 3 by kernel_rfl).symm.trans hf) |>.symm
      obtain rfl : fn = Tryz.f3 := (Option.some.inj (Tryz.func3.symm.trans hfn)).symm
      exact ⟨by kernel_rfl, fun j t ht => by
        rw [Tryz.params3] at ht
        have hmem : t ∈ [24, 3, 3, 25, 5, 3] := by
          have := Array.mem_of_getElem? ht
          simpa using this
        have hall : ([24, 3, 3, 25, 5, 3].all fun t => Tryz.prog.wantsStandIn t == false) = true := by kernel_rfl
        have hf : Tryz.prog.wantsStandIn t = false := by simpa using List.all_eq_true.1 hall t hmem
        exact hf⟩)
    (by kernel_rfl)
#print axioms stateRights_holds
end Go.Proofs.YtgliemhhnkhboaaGreatDoor
end
