/- The law GateParses returns true for every input, and its arguments read as before: the tied card. No conditions. This is part 3 of 7 of its proof; the parts are read in order. No conditions. -/
import Derived.Test.YtjcikceophcooaaDoorCGateParsesP2
import Derived.RangeFuncNested
import Derived.Lib.Builder
import Derived.Lib.UnsafeStr
import Derived.ChangeKeysEq
import Derived.ChangeArms
import Derived.ChangeOld
import Derived.SizedLaws
section
set_option linter.unusedVariables false
set_option linter.unusedSimpArgs false
namespace Go.Al
open Go.RowKit
def jumpOf : Exit → Option Code
  | .ret => some .ret
  | .exit j => some (.exit j)
  | _ => none
theorem setObj_other {σ : St} {l i : Nat} {q : Option Ob} (h : i ≠ l) : (σ.setObj l q).obj i = σ.obj i := by simp [St.setObj, h]
theorem setObj_same {σ : St} {l : Nat} {q : Option Ob} : (σ.setObj l q).obj l = q := by simp [St.setObj]
structure Round (P : Program) (w0 : Base) (n : Nat) (F FO : List Nat) (N : St → Prop) (D : Exit → St → Prop) (σ0 : St) (body : Code) (s : St) (e : Exit) (E1 : AEnv) (s1 : St) : Prop where
  e : e = .normal
  o : s1.obj = s.obj
  k : Kp F FO s s1
  b : ∀ l q, σ0.obj l = none → W P w0 n body (fun e _ s2 => Kp F FO (s1.setObj l q) s2 ∧ match e with | .normal => N s2 | .ret => D .ret s2 | .exit j => D (.exit j) s2 | _ => False) E1 (s1.setObj l q)
theorem Inv.entered {w0 : Base} {G : Gh} {σ : St} {w w' : World} {r : Loop} {E : AEnv} (hI : Inv w0 G σ w) (hE : ∀ t, Rel G w (E t) (r.tmps.getD t undef)) : Inv w0 G (σ.setObj w.heap.size (some (.loop r E))) (w.alloc (.loop r)) ∧ Ext G w G (w.alloc (.loop r)) :=
  hI.newOb fun w' ex hw => .loop hI.size hw fun t => (hE t).ext ex
theorem W.rangeFuncO {P : Program} {w0 : Base} {n : Nat} {g : Operand} {ps : Array Tmp} {assign body : Code} {Q : Exit → AEnv → St → Prop} {E : AEnv} {σ : St} {f : FuncId} {first cap : List AV} {xss : List (List AV)} (hg : aeval E g = .fn (.func f) first cap) (hf : Own P f)
    (hps : ∀ t ∈ ps.toList, t < n) (hlen : ∀ xs ∈ xss, ps.size = xs.length) {own : List (Nat × List AV)} (hit : IterO P w0 f first cap xss own) (F FO : List Nat) (I : Nat → St → Prop) (D : Exit → St → Prop) (hU : ∀ k, Free σ (I k)) (hUD : ∀ e, Free σ (D e))
    (hF : ∀ k s, I k s → ∀ i ∈ F, s.box i ≠ none) (hFD : ∀ e s, D e s → ∀ i ∈ F, s.box i ≠ none) (hFO : ∀ i ∈ FO, σ.obj i ≠ none) (hI' : ∀ k s, I k s → ∀ i ∈ FO, s.obj i ≠ none) (hD' : ∀ e s, D e s → ∀ i ∈ FO, s.obj i ≠ none) (h0 : I 0 σ)
    (hO1 : ∀ p ∈ own, σ.box p.1 = some p.2 ∧ p.1 ∉ F) (hO2 : ∀ k s p cs, p ∈ own → I k s → I k (s.setBox p.1 cs)) (hO3 : ∀ e s p cs, p ∈ own → D e s → D e (s.setBox p.1 cs))
    (round : ∀ k xs s, xss[k]? = some xs → I k s → W P w0 n assign (Round P w0 n F FO (I (k + 1)) D σ body s) (updL E ps.toList xs) s)
    (done : ∀ s, I xss.length s → Q .normal E s) (left : ∀ e s, D e s → (jumpOf e).isSome = true → Q e E s) : W P w0 n (.rangeFunc g ps assign body) Q E σ := ⟨fun G w a hI hE hn ro hd => by
  refine wpIn_rangeFunc fun fn _ => ?_
  have hgr := aeval_rel hE g
  rw [hg] at hgr
  generalize hgv : a.eval g = gv at hgr
  cases hgr with
  | fn hv1 hv2 =>
    rename_i vs us
    -- entering
    have hent : ∃ (l : Nat) (mark : List Deferred) (w1 : World) (rec : Loop), (Instr.enterLoop fn a.tmps ps assign body (wideAt ro).round).run P w = .ok (l, mark) w1 ∧ rec.state = .ready ∧ rec.pending = none ∧ rec.tmps = a.tmps ∧ rec.params = ps ∧ rec.assign = assign ∧ rec.body = body ∧
        Inv w0 G (σ.setObj l (some (.loop rec E))) w1 ∧ Ext G w G w1 ∧ σ.obj l = none ∧ Fr ro w1 (mark ++ a.defers) := by
      obtain ⟨rl, rlo⟩ := ro
      cases rl with
      | none =>
        have g1 := grows_plain G w (.deferred (some []))
        have hI1 := g1.inv hI
        have hr := run_enterLoop_outer (P := P) (w := w) fn a.tmps ps assign body
        obtain ⟨hI2, ex2⟩ := hI1.entered (w' := w) (E := E) (r := { state := .ready, pending := none, fn, tmps := a.tmps, params := ps, assign, body, defers := w.heap.size }) fun t => (hE.get t).ext g1.ext
        have hs : ({ w with heap := w.heap.push (.deferred (some [])) } : World).heap.size = w.heap.size + 1 := by simp
        rw [hs] at hI2
        refine ⟨_, _, _, _, hr, rfl, rfl, rfl, rfl, rfl, rfl, hI2, g1.ext.trans ex2, hI.obj_new (by omega), ?_⟩
        have hd2 := hd.ext (g1.ext.trans ex2)
        obtain ⟨Ds, h1, h2, h3⟩ := hd2.marks
        obtain ⟨Ds0, k1, k2, k3⟩ := hd.marks
        have eD : Ds0 = Ds := by
          have : Ds0.map markOf = Ds.map markOf := k1.symm.trans h1
          have inj : ∀ (x y : List Nat), x.map markOf = y.map markOf → x = y := by
            intro x
            induction x with
            | nil => intro y hy; cases y with
              | nil => rfl
              | cons b y => simp at hy
            | cons a x ih => intro y hy; cases y with
              | nil => simp at hy
              | cons b y =>
                simp only [List.map_cons, List.cons.injEq] at hy
                rw [ih y hy.2]
                have := hy.1
                simp only [markOf, Deferred.mk.injEq, Target.collected.injEq, and_true] at this
                rw [this]
          exact inj _ _ this
        subst eD
        refine ⟨⟨w.heap.size :: Ds0, by rw [k1]; rfl, ?_, ?_⟩, hd2.loop, hd2.lo⟩
        · rw [List.nodup_cons]
          refine ⟨fun hm => ?_, k2⟩
          have := lt_of_get (k3 _ hm).2
          omega
        · intro D hD
          rcases List.mem_cons.1 hD with rfl | hD
          · refine ⟨hd.lo, ?_⟩
            exact ex2.sol.dfr _ _ g1.new
          · exact h3 D hD
      | some l0 =>
        obtain ⟨r0, hr0⟩ := hd.loop l0 rfl
        have hr := run_enterLoop_inner (P := P) hr0 fn a.tmps ps assign body
        obtain ⟨hI2, ex2⟩ := hI.entered (w' := w) (E := E) (r := { state := .ready, pending := none, fn, tmps := a.tmps, params := ps, assign, body, defers := r0.defers }) hE.get
        exact ⟨_, _, _, _, hr, rfl, rfl, rfl, rfl, rfl, rfl, hI2, ex2, hI.obj_new (Nat.le_refl _), hd.ext ex2⟩
    obtain ⟨l, mark, w1, rec, hent, hs, hp, ht, hpar, has, hbo, hI1, ex1, hfr, hd1⟩ := hent
    have hlFO : l ∉ FO := fun h => hFO l h hfr
    -- the iterator's call
    have hfree : ∀ J : St → Prop, Free σ J → Free (σ.setObj l (some (.loop rec E))) J := fun J h => ⟨h.up, h.box, fun s i q hi hs => h.obj s i q (by
      have hne : i ≠ l := by rintro rfl; rw [setObj_same] at hi; cases hi
      rwa [setObj_other hne] at hi) hs⟩
    have hown : ∀ r, Free (σ.setObj l (some (.loop rec E))) (fun s => s.obj l = some (.loop r E)) := fun r => .hasObj (by rw [setObj_same]; simp) _
    have hO : ∀ k s l q, σ.obj l = none → I k s → I k (s.setObj l q) := fun k s l q hl h => (hU k).obj s l q hl h
    have hOD : ∀ e s l q, σ.obj l = none → D e s → D e (s.setObj l q) := fun e s l q hl h => (hUD e).obj s l q hl h
    have hcall := hit.go l F (l :: FO) (fun k s => I k s ∧ s.obj l = some (.loop rec E)) (fun s => ∃ e c, jumpOf e = some c ∧ D e s ∧ s.obj l = some (.loop (recAt rec .done (some c)) E)) (σ.setObj l (some (.loop rec E)))
      (fun k => (hfree _ (hU k)).and (hown _)) (.ex fun e => .ex fun c => (Free.pure _).and ((hfree _ (hUD e)).and (hown _)))
      (fun k s h => ⟨hF k s h.1, fun i hi => by
        rcases List.mem_cons.1 hi with rfl | hi
        · rw [h.2]; simp
        · exact hI' k s h.1 i hi⟩)
      (fun s ⟨e, c, h1, h2, h3⟩ => ⟨hFD e s h2, fun i hi => by
        rcases List.mem_cons.1 hi with rfl | hi
        · rw [h3]; simp
        · exact hD' e s h2 i hi⟩)
      hO1 (fun k s p cs hp h => ⟨hO2 k s p cs hp h.1, h.2⟩) (fun s p cs hp ⟨e, c, h1, h2, h3⟩ => ⟨e, c, h1, hO3 e s p cs hp h2, h3⟩)
      (fun k xs s hx ⟨hi, hl⟩ => by
        refine RoundW.mk' (n := n) hl hs hp (by rw [ht, hn]) (by rw [hpar]; exact hlen xs (List.mem_of_getElem? hx)) (by rw [hpar]; exact hps) ?_
        rw [hpar, has]
        refine (round k xs s hx hi).mono fun e E1 s1 q => ?_
        obtain ⟨rfl, ho, hk1, hb⟩ := q
        refine ⟨rfl, by rw [ho]; exact hl, ?_⟩
        rw [hbo]
        refine (hb l (some (.loop (recAt rec .busy none) E)) hfr).mono fun e E2 s2 ⟨hk2, q⟩ => ?_
        have hb2 : s2.obj l = some (.loop (recAt rec .busy none) E) := hk2.obj l _ hlFO setObj_same
        have kp : ∀ q', Kp F (l :: FO) s (s2.setObj l q') := fun q' => ⟨fun i cs hi e => hk2.box i cs hi (hk1.box i cs hi e), fun i o hi e => by
          have hne : i ≠ l := fun h => hi (by simp [h])
          have hnF : i ∉ FO := fun h => hi (by simp [h])
          rw [setObj_other hne]
          exact hk2.obj i o hnF (by rw [setObj_other hne]; exact hk1.obj i o hnF e)⟩
        cases e with
        | normal => exact ⟨hb2, kp _, .inl ⟨rfl, hO _ _ _ _ hfr q, setObj_same⟩⟩
        | ret => exact ⟨hb2, kp _, .inr ⟨rfl, .ret, _, rfl, hOD _ _ _ _ hfr q, setObj_same⟩⟩
        | exit j => exact ⟨hb2, kp _, .inr ⟨rfl, .exit j, _, rfl, hOD _ _ _ _ hfr q, setObj_same⟩⟩
        | goto t => exact q.elim
        | panic c => exact q.elim
        | outgrown => exact q.elim)
      ⟨hO _ _ _ _ hfr h0, setObj_same⟩
    have hrel : RelL G w1 (first ++ [.fn (.yield l) [] []] ++ cap) (vs ++ [.func (.yield l) #[] #[]] ++ us) := ((hv1.ext ex1).append (.cons (.fn .nil .nil) .nil)).append (hv2.ext ex1)
    refine ⟨l, mark, w1, { target := .fn (.func f) us.toArray, args := vs.toArray ++ #[.func (.yield l) #[] #[]] }, w1, f, (vs ++ [Value.func (.yield l) #[] #[]] ++ us).toArray, w1, hent, ?_, fun _ _ => trivial, ?_, fun e => by simp [wideAt, Fence.wide] at e, ?_⟩
    · simp only [resolve, hgv]
      simp [go_sem, Deferred.ofValue]
    · simp only [invoke]
      have := own_enter hf (vs.toArray ++ #[.func (.yield l) #[] #[]] ++ us.toArray) w1
      simpa using this
    · refine callsIn_at ((hcall.go G w1 _ hI1 hrel).mono ?_) ro
      rintro e w3 ⟨v, r, s, G3, rfl, ⟨hr, hq⟩, hI3, ex3, hrv⟩
      have fin : ∀ (st : LoopState) (pe : Option Code), s.obj l = some (.loop (recAt rec st pe) E) → st ≠ .busy → ∃ w4, (Instr.endLoop l).run P w3 = .ok pe w4 ∧ Inv w0 G3 (s.setObj l none) w4 ∧ RelE G3 w4 E { a with defers := mark ++ a.defers } ∧ Fr ro w4 (mark ++ a.defers) ∧ Ext G w G3 w4 := by
        intro st pe hl hst
        obtain ⟨hb, here, rel⟩ := loop_here hI3 hl
        have ex4 : Ext G3 w3 G3 (w3.putObj l (.loop { recAt rec st pe with state := .exhausted })) := putObj_ext here rfl rfl (by simp) (fun _ _ => ⟨_, rfl⟩)
        refine ⟨_, run_endLoop here hst, hI3.putOb (σ' := s.setObj l none) hb here rfl rfl rfl rfl (fun i q hi => .inl ?_), ⟨fun t => (hE.get t).ext (ex1.trans (ex3.trans ex4))⟩, (hd1.ext (ex3.trans ex4)), ex1.trans (ex3.trans ex4)⟩
        by_cases e : i = l
        · subst e; rw [setObj_same] at hi; cases hi
        · exact ⟨e, by rwa [setObj_other e] at hi⟩
      rcases hq with ⟨hi, hl⟩ | ⟨e, c, hc, hD, hl⟩
      · obtain ⟨w4, he, hI4, hE4, hd4, ex4⟩ := fin .ready none (by rw [recAt_self hs hp]; exact hl) (by simp)
        exact ⟨_, w4, he, E, s.setObj l none, G3, done _ (hO _ _ _ _ hfr hi), hI4, hE4, hn, hd4, ex4⟩
      · obtain ⟨w4, he, hI4, hE4, hd4, ex4⟩ := fin .done (some c) hl (by simp)
        have hQ := left e _ (hOD e s l none hfr hD) (by rw [hc]; rfl)
        refine ⟨_, w4, he, ?_⟩
        cases e with
        | ret => cases hc; exact wpIn_ret ⟨E, s.setObj l none, G3, hQ, hI4, hE4, hn, hd4, ex4⟩
        | exit j => cases hc; exact wpIn_exit ⟨E, s.setObj l none, G3, hQ, hI4, hE4, hn, hd4, ex4⟩
        | normal => cases hc
        | goto t => cases hc
        | panic c => cases hc
        | outgrown => cases hc⟩
theorem W.rangeFunc {P : Program} {w0 : Base} {n : Nat} {g : Operand} {ps : Array Tmp} {assign body : Code} {Q : Exit → AEnv → St → Prop} {E : AEnv} {σ : St} {f : FuncId} {first cap : List AV} {xss : List (List AV)} (hg : aeval E g = .fn (.func f) first cap) (hf : Own P f)
    (hps : ∀ t ∈ ps.toList, t < n) (hlen : ∀ xs ∈ xss, ps.size = xs.length) (hit : IterW P w0 f first cap xss) (F FO : List Nat) (I : Nat → St → Prop) (D : Exit → St → Prop) (hU : ∀ k, Free σ (I k)) (hUD : ∀ e, Free σ (D e))
    (hF : ∀ k s, I k s → ∀ i ∈ F, s.box i ≠ none) (hFD : ∀ e s, D e s → ∀ i ∈ F, s.box i ≠ none) (hFO : ∀ i ∈ FO, σ.obj i ≠ none) (hI' : ∀ k s, I k s → ∀ i ∈ FO, s.obj i ≠ none) (hD' : ∀ e s, D e s → ∀ i ∈ FO, s.obj i ≠ none) (h0 : I 0 σ)
    (round : ∀ k xs s, xss[k]? = some xs → I k s → W P w0 n assign (Round P w0 n F FO (I (k + 1)) D σ body s) (updL E ps.toList xs) s)
    (done : ∀ s, I xss.length s → Q .normal E s) (left : ∀ e s, D e s → (jumpOf e).isSome = true → Q e E s) : W P w0 n (.rangeFunc g ps assign body) Q E σ :=
  .rangeFuncO hg hf hps hlen hit.o F FO I D hU hUD hF hFD hFO hI' hD' h0 (fun p hp => by cases hp) (fun k s p cs hp => by cases hp) (fun e s p cs hp => by cases hp) round done left
end Go.Al
end
section
set_option linter.unusedVariables false
set_option linter.unusedSimpArgs false
namespace Go.Al
open Go.RowKit
theorem Know.le {τ s : St} {B : BL} (h : Know τ B) (hl : St.Le τ s) : Know s B := ⟨fun p hp => hl.box _ _ (h.has p hp), h.nd⟩
def updSL (L : SL) : List Tmp → List AV → SL
  | t :: ts, x :: xs => updSL ((t, x) :: L) ts xs
  | _, _ => L
theorem updSL_env : ∀ (L : SL) (ts : List Tmp) (xs : List AV), updL (env L) ts xs = env (updSL L ts xs)
  | L, t :: ts, x :: xs => by
    rw [updL, updSL, ← updSL_env]
    congr 1
  | L, [], xs => by cases xs <;> rfl
  | L, t :: ts, [] => rfl
theorem Know.away {s : St} {B : BL} (h : Know s B) {b : Nat} {cs : List AV} (hb : b ∉ B.map (·.1)) : Know (s.setBox b cs) B :=
  ⟨fun p hp => by rw [setBox_ne (by rintro rfl; exact hb (List.mem_map.2 ⟨p, hp, rfl⟩))]; exact h.has p hp, h.nd⟩
theorem Free.know {σ : St} {B : BL} (h : ∀ p ∈ B, σ.box p.1 ≠ none) : Free σ (fun s => Know s B) := ⟨fun _ _ k hl => k.le hl, fun s b cs hb k => ⟨fun p hp => by rw [setBox_ne (by rintro rfl; exact h p hp hb)]; exact k.has p hp, k.nd⟩, fun s l q _ k => k.obj l q⟩
section
variable {P : Program} {w0 : Base} {T : TT} {n : Nat} {k : SL → St → BL → Prop} {X : Nat → SL → St → BL → Prop} {R : SL → St → BL → Prop} {L : SL} {σ : St} {B : BL}
theorem Stop.rangeO (hT : T.ok P) (hm : P.follows .mixedOrders = true) {g : Operand} {ps : Array Tmp} {assign body : Code} {f : FuncId} {first cap : List AV} (hg : ev L g = .fn (.func f) first cap) [hf : OwnF P f] (psl : List Tmp) (hpl : ps.toList = psl) (hps : ∀ t ∈ psl, t < n) (ho1 : codeOk n assign = true) (ho2 : codeOk n body = true)
    {xss : List (List AV)} (hlen : ∀ xs ∈ xss, psl.length = xs.length) {own : List (Nat × List AV)} (hit : IterO P w0 f first cap xss own) (F FO : List Nat) {α β : Type} (ix : α → Nat) (bx : α → BL) (p : α → St → Prop) (a0 : α) (de : β → Exit) (dx : β → BL) (dp : β → St → Prop)
    (up : ∀ a, Free σ (p a)) (upD : ∀ b, Free σ (dp b)) (hK : ∀ a, ∀ q ∈ bx a, q.1 ∈ B.map (·.1)) (hKD : ∀ b, ∀ q ∈ dx b, q.1 ∈ B.map (·.1)) (hF : ∀ a, ∀ i ∈ F, i ∈ (bx a).map (·.1)) (hFD : ∀ b, ∀ i ∈ F, i ∈ (dx b).map (·.1))
    (hFO : ∀ i ∈ FO, σ.obj i ≠ none) (hFa : ∀ a s, p a s → ∀ i ∈ FO, s.obj i ≠ none) (hFb : ∀ b s, dp b s → ∀ i ∈ FO, s.obj i ≠ none) (h0 : ix a0 = 0) (hB0 : BSub (bx a0) B) (hp0 : p a0 σ)
    (hO1 : ∀ q ∈ own, q ∈ B ∧ q.1 ∉ F) (hO2 : ∀ a, ∀ q ∈ own, q.1 ∉ (bx a).map (·.1)) (hO3 : ∀ b, ∀ q ∈ own, q.1 ∉ (dx b).map (·.1)) (hO4 : ∀ a s q cs, q ∈ own → p a s → p a (s.setBox q.1 cs)) (hO5 : ∀ b s q cs, q ∈ own → dp b s → dp b (s.setBox q.1 cs))
    (round : ∀ a s xs, p a s → Know s (bx a) → xss[ix a]? = some xs → xOpen (updSL L psl xs) (bx a) fun L' B' => Xc P w0 T n assign (fun L1 s1 B1 => s1.obj = s.obj ∧ Kp F FO s s1 ∧ ∀ l q, σ.obj l = none → xOpen L1 B1 fun L1 B1 => Xc P w0 T n body
      (fun _ s2 B2 => Kp F FO (s1.setObj l q) s2 ∧ ∃ a', ix a' = ix a + 1 ∧ BSub (bx a') B2 ∧ p a' s2) (fun j _ s2 B2 => Kp F FO (s1.setObj l q) s2 ∧ ∃ b, de b = .exit j ∧ BSub (dx b) B2 ∧ dp b s2) (fun _ s2 B2 => Kp F FO (s1.setObj l q) s2 ∧ ∃ b, de b = .ret ∧ BSub (dx b) B2 ∧ dp b s2) L1 (s1.setObj l q) B1) (fun _ _ _ _ => False) (fun _ _ _ => False) L' s B')
    (done : ∀ a s, ix a = xss.length → p a s → Know s (bx a) → xOpen L (bx a) fun L B => k L s B)
    (left : ∀ b s, dp b s → Know s (dx b) → match de b with | .ret => xOpen L (dx b) fun L B => R L s B | .exit j => xOpen L (dx b) fun L B => X j L s B | _ => True) : Stop (Know σ B → W P w0 n (.rangeFunc g ps assign body) (QX k X R) (env L) σ) := ⟨fun hB => by
  subst hpl
  have hin : ∀ b, b ∈ B.map (·.1) → σ.box b ≠ none := fun b hb => by
    obtain ⟨q, hq, rfl⟩ := List.mem_map.1 hb
    rw [hB.has q hq]; simp
  refine W.rangeFuncO (by rw [← ev_eq]; exact hg) hf.h hps (fun xs hx => by rw [← Array.length_toList]; exact hlen xs hx) hit F FO (fun i s => ∃ a, ix a = i ∧ Know s (bx a) ∧ p a s) (fun e s => ∃ b, de b = e ∧ Know s (dx b) ∧ dp b s)
    (fun i => .ex fun a => (Free.pure _).and ((Free.know fun q hq => hin q.1 (hK a q hq)).and (up a))) (fun e => .ex fun b => (Free.pure _).and ((Free.know fun q hq => hin q.1 (hKD b q hq)).and (upD b)))
    (fun i s ⟨a, h1, h2, h3⟩ j hj => by
      obtain ⟨q, hq, rfl⟩ := List.mem_map.1 (hF a j hj)
      rw [h2.has q hq]; simp)
    (fun e s ⟨b, h1, h2, h3⟩ j hj => by
      obtain ⟨q, hq, rfl⟩ := List.mem_map.1 (hFD b j hj)
      rw [h2.has q hq]; simp)
    hFO (fun i s ⟨a, h1, h2, h3⟩ => hFa a s h3) (fun e s ⟨b, h1, h2, h3⟩ => hFb b s h3) ⟨a0, h0, hB.sub hB0, hp0⟩
    (fun q hq => ⟨hB.has q (hO1 q hq).1, (hO1 q hq).2⟩) (fun i s q cs hq ⟨a, h1, h2, h3⟩ => ⟨a, h1, h2.away (hO2 a q hq), hO4 a s q cs hq h3⟩) (fun e s q cs hq ⟨b, h1, h2, h3⟩ => ⟨b, h1, h2.away (hO3 b q hq), hO5 b s q cs hq h3⟩) ?_ ?_ ?_
  · rintro i xs s hx ⟨a, rfl, hK, hp⟩
    have hr := round a s xs hp hK hx
    rw [xOpen_eq] at hr
    rw [updSL_env]
    refine (Xc_ok hT hm assign _ _ _ _ s (bx a) ho1 hK hr).mono fun e E1 s1 q => ?_
    cases e with
    | normal =>
      obtain ⟨L1, B1, rfl, hB1, h1, h2, h3⟩ := q
      refine ⟨rfl, h1, h2, fun l q hl => ?_⟩
      have hb := h3 l q hl
      rw [xOpen_eq] at hb
      refine (Xc_ok hT hm body _ _ _ L1 (s1.setObj l q) B1 ho2 (hB1.obj l q) hb).mono fun e E2 s2 q => ?_
      cases e with
      | normal =>
        obtain ⟨L2, B2, rfl, hB2, hk, a', k1, k2, k3⟩ := q
        exact ⟨hk, a', k1, hB2.sub k2, k3⟩
      | exit j =>
        obtain ⟨L2, B2, rfl, hB2, hk, b, k1, k2, k3⟩ := q
        exact ⟨hk, b, k1, hB2.sub k2, k3⟩
      | ret =>
        obtain ⟨L2, B2, rfl, hB2, hk, b, k1, k2, k3⟩ := q
        exact ⟨hk, b, k1, hB2.sub k2, k3⟩
      | goto t => exact q.elim
      | panic c => exact q.elim
      | outgrown => exact q.elim
    | exit j => obtain ⟨_, _, _, _, q⟩ := q; exact q.elim
    | ret => obtain ⟨_, _, _, _, q⟩ := q; exact q.elim
    | goto t => exact q.elim
    | panic c => exact q.elim
    | outgrown => exact q.elim
  · rintro s ⟨a, h1, h2, h3⟩
    have := done a s h1 h3 h2
    rw [xOpen_eq] at this
    exact ⟨L, bx a, rfl, h2, this⟩
  · rintro e s ⟨b, rfl, h2, h3⟩ hj
    have := left b s h3 h2
    cases hd : de b with
    | ret => rw [hd] at this; simp only [xOpen_eq] at this; exact ⟨L, dx b, rfl, h2, this⟩
    | exit j => rw [hd] at this; simp only [xOpen_eq] at this; exact ⟨L, dx b, rfl, h2, this⟩
    | normal => rw [hd] at hj; cases hj
    | goto t => rw [hd] at hj; cases hj
    | panic c => rw [hd] at hj; cases hj
    | outgrown => rw [hd] at hj; cases hj⟩
theorem Stop.range (hT : T.ok P) (hm : P.follows .mixedOrders = true) {g : Operand} {ps : Array Tmp} {assign body : Code} {f : FuncId} {first cap : List AV} (hg : ev L g = .fn (.func f) first cap) [hf : OwnF P f] (psl : List Tmp) (hpl : ps.toList = psl) (hps : ∀ t ∈ psl, t < n) (ho1 : codeOk n assign = true) (ho2 : codeOk n body = true)
    {xss : List (List AV)} (hlen : ∀ xs ∈ xss, psl.length = xs.length) (hit : IterW P w0 f first cap xss) (F FO : List Nat) {α β : Type} (ix : α → Nat) (bx : α → BL) (p : α → St → Prop) (a0 : α) (de : β → Exit) (dx : β → BL) (dp : β → St → Prop)
    (up : ∀ a, Free σ (p a)) (upD : ∀ b, Free σ (dp b)) (hK : ∀ a, ∀ q ∈ bx a, q.1 ∈ B.map (·.1)) (hKD : ∀ b, ∀ q ∈ dx b, q.1 ∈ B.map (·.1)) (hF : ∀ a, ∀ i ∈ F, i ∈ (bx a).map (·.1)) (hFD : ∀ b, ∀ i ∈ F, i ∈ (dx b).map (·.1))
    (hFO : ∀ i ∈ FO, σ.obj i ≠ none) (hFa : ∀ a s, p a s → ∀ i ∈ FO, s.obj i ≠ none) (hFb : ∀ b s, dp b s → ∀ i ∈ FO, s.obj i ≠ none) (h0 : ix a0 = 0) (hB0 : BSub (bx a0) B) (hp0 : p a0 σ)
    (round : ∀ a s xs, p a s → Know s (bx a) → xss[ix a]? = some xs → xOpen (updSL L psl xs) (bx a) fun L' B' => Xc P w0 T n assign (fun L1 s1 B1 => s1.obj = s.obj ∧ Kp F FO s s1 ∧ ∀ l q, σ.obj l = none → xOpen L1 B1 fun L1 B1 => Xc P w0 T n body
      (fun _ s2 B2 => Kp F FO (s1.setObj l q) s2 ∧ ∃ a', ix a' = ix a + 1 ∧ BSub (bx a') B2 ∧ p a' s2) (fun j _ s2 B2 => Kp F FO (s1.setObj l q) s2 ∧ ∃ b, de b = .exit j ∧ BSub (dx b) B2 ∧ dp b s2) (fun _ s2 B2 => Kp F FO (s1.setObj l q) s2 ∧ ∃ b, de b = .ret ∧ BSub (dx b) B2 ∧ dp b s2) L1 (s1.setObj l q) B1) (fun _ _ _ _ => False) (fun _ _ _ => False) L' s B')
    (done : ∀ a s, ix a = xss.length → p a s → Know s (bx a) → xOpen L (bx a) fun L B => k L s B)
    (left : ∀ b s, dp b s → Know s (dx b) → match de b with | .ret => xOpen L (dx b) fun L B => R L s B | .exit j => xOpen L (dx b) fun L B => X j L s B | _ => True) : Stop (Know σ B → W P w0 n (.rangeFunc g ps assign body) (QX k X R) (env L) σ) :=
  .rangeO hT hm hg psl hpl hps ho1 ho2 hlen hit.o F FO ix bx p a0 de dx dp up upD hK hKD hF hFD hFO hFa hFb h0 hB0 hp0 (fun q hq => by cases hq) (fun a q hq => by cases hq) (fun b q hq => by cases hq) (fun a s q cs hq => by cases hq) (fun b s q cs hq => by cases hq) round done left
end
end Go.Al
end
section
set_option linter.unusedVariables false
namespace Go.Al
structure Hid (p : Prop) : Prop where
  go : p
theorem hid_eq (p : Prop) : Hid p = p := propext ⟨fun h => h.go, fun h => ⟨h⟩⟩
section
variable {P : Program} {w0 : Base} {T : TT} {n : Nat} {a b c : Code} {k : SL → St → BL → Prop} {X : Nat → SL → St → BL → Prop} {R : SL → St → BL → Prop} {L : SL} {σ : St} {B : BL}
theorem Xc_h (h : Hid (Xc P w0 T n c k X R L σ B)) : Xc P w0 T n c k X R L σ B := h.go
theorem Hid.seq (h : Hid (Xc P w0 T n a (fun L σ B => Hid (Xc P w0 T n b k X R L σ B)) X R L σ B)) : Hid (Xc P w0 T n (.seq a b) k X R L σ B) :=
  ⟨by have := h.go; simp only [hid_eq] at this; rw [Xc]; exact this⟩
theorem Hid.reg {id : Nat} {ops : Array Oper} (h : Xr P w0 T ops.toList ⟨fun _ => 2, 0, none⟩ k 0 ops.toList L σ B) : Hid (Xc P w0 T n (.region id ops false) k X R L σ B) := ⟨by rw [Xc]; exact h⟩
theorem Hid.regD {id : Nat} {ops : Array Oper} (h : SReg P w0 T n id ops.toList k X R L σ B) : Hid (Xc P w0 T n (.region id ops true) k X R L σ B) := ⟨by rw [Xc]; exact h⟩
theorem Hid.cond {t : Bool} {o : Operand} (e : ev L o = .bool t) (h : SIf P w0 T n t o a b k X R L σ B) : Hid (Xc P w0 T n (.cond o a b) k X R L σ B) := ⟨by rw [Xc, e]; exact h⟩
theorem Hid.block {id : Nat} (h : Hid (Xc P w0 T n c k (fun j L σ B => bif Nat.beq j id then k L σ B else X j L σ B) R L σ B)) : Hid (Xc P w0 T n (.block id c) k X R L σ B) := ⟨by rw [Xc]; exact h.go⟩
theorem Hid.loop (h : SLoop P w0 T n c k X R L σ B) : Hid (Xc P w0 T n (.loop c) k X R L σ B) := ⟨by rw [Xc]; exact h⟩
theorem Hid.exit {j : Nat} (h : X j L σ B) : Hid (Xc P w0 T n (.exit j) k X R L σ B) := ⟨by rw [Xc]; exact h⟩
theorem Hid.ret (h : R L σ B) : Hid (Xc P w0 T n .ret k X R L σ B) := ⟨by rw [Xc]; exact h⟩
theorem Hid.skip (h : k L σ B) : Hid (Xc P w0 T n .skip k X R L σ B) := ⟨by rw [Xc]; exact h⟩
theorem Hid.range {g : Operand} {ps : Array Tmp} (h : Stop (Know σ B → W P w0 n (.rangeFunc g ps a b) (QX k X R) (env L) σ)) : Hid (Xc P w0 T n (.rangeFunc g ps a b) k X R L σ B) := ⟨h⟩
theorem Hid.label {l : Nat} (h : k L σ B) : Hid (Xc P w0 T n (.label l) k X R L σ B) := ⟨by rw [Xc]; exact h⟩
end
theorem CallW.h {P : Program} {w0 : Base} {T : TT} {f : FuncId} {fn : Func} {c : Code} {m : Nat} {args : List AV} {σ : St} {B : BL} {K : AV → St → Prop} {rs : List ResultVar} (hT : T.ok P) (hm : P.follows .mixedOrders = true) (hf : P.funcs[f]? = some fn) (hb : fn.body = some c) (hn : fn.ntmps = m) (hr : fn.results.toList = rs) (ha : args.length ≤ m) (ho : codeOk m c = true) (hB : Know σ B)
    (h : xOpen (envArgs 0 args) B fun L B => Hid (Xc P w0 T m c (xRet P T rs K) (fun _ _ _ _ => False) (xRet P T rs K) L σ B)) : CallW P w0 f args σ K :=
  .x hT hm hf hb hn hr ha ho hB (by rw [xOpen_eq] at h ⊢; exact h.go)
theorem CallP.h {P : Program} {w0 : Base} {T : TT} {f : FuncId} {fn : Func} {c : Code} {m : Nat} {args : List AV} {r : AV} {rs : List ResultVar} (hT : T.ok P) (hm : P.follows .mixedOrders = true) (hf : P.funcs[f]? = some fn) (hb : fn.body = some c) (hn : fn.ntmps = m) (hr : fn.results.toList = rs) (ha : args.length ≤ m) (ho : codeOk m c = true)
    (h : ∀ σ, fSL (envArgs 0 args) fun L => Hid (Xc P w0 T m c (xRet P T rs fun r' s => r' = r ∧ s = σ) (fun _ _ _ _ => False) (xRet P T rs fun r' s => r' = r ∧ s = σ) L σ [])) : CallP P w0 f args r :=
  .x hT hm hf hb hn hr ha ho fun σ => by have := h σ; rw [fSL_eq] at this ⊢; exact this.go
end Go.Al
end
section
set_option linter.unusedVariables false
set_option linter.unusedSimpArgs false
namespace Go.Al
open Go.RowKit
section
variable {P : Program} {w0 : Base} {T : TT} {n : Nat} {k : SL → St → BL → Prop} {X : Nat → SL → St → BL → Prop} {R : SL → St → BL → Prop} {L : SL} {σ : St} {B : BL}
end
def Gh.since (G : Gh) (m n : Nat) : Gh := { G with imm := fun b o => G.imm b o ∨ (m ≤ b ∧ b < n) }
theorem Inv.since {w0 : Base} {G : Gh} {σ : St} {w w' : World} (hI : Inv w0 G σ w) (hb : Below w.heap.size w w') : Inv w0 (G.since w.heap.size w'.heap.size) σ w' ∧ Ext G w (G.since w.heap.size w'.heap.size) w' := by
  have hI' := hI.below hb
  have e0 := Ext.below (G := G) hb
  have e1 : Ext G w' (G.since w.heap.size w'.heap.size) w' := ⟨rfl, fun _ _ h => h, fun _ _ h => h, fun _ _ h => .inl h, fun _ _ _ _ h => h, .refl _⟩
  refine ⟨⟨hI'.base, hI'.old, fun i cs hc => ?_, hI'.binj, fun t ht => ?_, hI'.tinj, hI'.apart, fun b o h => ?_, hI'.boxlt, hI'.toklt, hI'.fresh, fun l o hr => (hI'.obj l o hr).ext e1 fun _ _ h _ => h⟩, e0.trans e1⟩
  · obtain ⟨m, c, T, h1, h2, h3, h4, h5⟩ := (hI'.box i cs hc).ex
    exact ⟨m, c, T, h1, h2, h3, h4.ext e1, ⟨fun o ho => ho.elim (h5 o) fun h => by have := hI.boxlt i m h1; omega, h5.tag⟩⟩
  · obtain ⟨m, e', lim, c, T, fr, h1, h2, h3, h4, h5, h6⟩ := (hI'.tok t ht).ex
    exact ⟨m, e', lim, c, T, fr, h1, h2, h3, h4, h5, fun o ho h => h.elim (h6 o ho) fun h => by have := hI.toklt t m e' lim h1; omega⟩
  · rcases h with h | h
    · exact hI'.immlt b o h
    · exact h.2
theorem CallP.fresh {P : Program} {w0 : Base} {f : FuncId} {args : List AV} {r : AV} (h : ∀ G w vs, Below w0.w.heap.size w0.w w → RelL G w args vs → Calls P f vs.toArray w (fun e w' => ∃ v, e = .returned v ∧ Below w.heap.size w w' ∧ Rel (G.since w.heap.size w'.heap.size) w' r v)) : CallP P w0 f args r := fun σ => ⟨fun G w vs hI hr => by
  refine (h G w vs (hI.base ▸ hI.old) hr).mono ?_
  rintro e w' ⟨v, rfl, hb, hv⟩
  obtain ⟨h1, h2⟩ := hI.since hb
  exact ⟨v, r, σ, _, rfl, ⟨rfl, rfl⟩, h1, h2, hv⟩⟩
theorem SCall.w4 {P : Program} {w0 : Base} {f : FuncId} {as : List AV} {σ : St} {B : BL} {hd : Option (Nat × List AV)} {kn : Nat} {K : AV → St → BL → Prop} {R : AV → St → Prop} (h : CallW P w0 f as σ R) [hf : OwnF P f] (hk : kn = 4) (k : ∀ r s, R r s → Know σ B → (∃ B', Know s B' ∧ K r s B') ∧ (HB hd σ → HB hd s)) : SCall P w0 f as σ B hd kn K := ⟨fun hB => .inr ⟨hf.h, .inr (.inr (.inr ⟨hk, h.mono fun r s hr => k r s hr hB⟩))⟩⟩
theorem HB.new {hd : Option (Nat × List AV)} {σ : St} {b : Nat} {cs : List AV} (hb : σ.box b = none) (h : HB hd σ) : HB hd (σ.setBox b cs) := fun p hp => by
  have := h p hp
  rw [setBox_ne (by rintro rfl; rw [hb] at this; cases this)]; exact this
theorem le_both {σ s : St} {b : Nat} {cs : List AV} (h : St.Le σ s) : St.Le (σ.setBox b cs) (s.setBox b cs) := ⟨fun i ds e => by
  by_cases hi : i = b
  · subst hi; rw [setBox_same] at e ⊢; exact e
  · rw [setBox_ne hi] at e ⊢; exact h.box i ds e, h.tok, h.obj⟩
end Go.Al
end
section
set_option linter.unusedVariables false
set_option linter.unusedSimpArgs false
namespace Go.Al
open Go.RowKit
def ownV (n : Nat) : Option (Nat × Nat) → AV
  | none => .nils
  | some (b, cap) => .msl b 0 n cap
structure OwnR (σ τ : St) (xs : List AV) (sz b cap : Nat) : Prop where
  new : σ.box b = none
  has : ∃ junk, τ.box b = some (xs.flatMap AV.cells ++ junk) ∧ cap * sz ≤ (xs.flatMap AV.cells ++ junk).length
  cap : xs.length ≤ cap
def ownP (σ τ : St) (xs : List AV) (sz : Nat) : Option (Nat × Nat) → Prop
  | none => xs = []
  | some (b, cap) => OwnR σ τ xs sz b cap
structure Grw (σ τ : St) (xs : List AV) (sz : Nat) (o : Option (Nat × Nat)) : Prop where
  le : St.Le σ τ
  row : ownP σ τ xs sz o
theorem Grw.nil {σ τ : St} {sz : Nat} (h : St.Le σ τ) : Grw σ τ [] sz none := ⟨h, rfl⟩
theorem Grw.other {σ τ : St} {xs : List AV} {sz : Nat} {o : Option (Nat × Nat)} (h : Grw σ τ xs sz o) {c : Nat} {cs : List AV} (hc : τ.box c = none) : Grw σ (τ.setBox c cs) xs sz o := by
  refine ⟨le_new h.le hc, ?_⟩
  cases o with
  | none => exact h.row
  | some p =>
    obtain ⟨b, cap⟩ := p
    obtain ⟨h1, ⟨junk, h2, h3⟩, h4⟩ := h.row
    exact ⟨h1, ⟨junk, by rw [setBox_ne (by rintro rfl; rw [hc] at h2; cases h2)]; exact h2, h3⟩, h4⟩
theorem Grw.keeps {σ τ : St} {xs : List AV} {sz : Nat} {o : Option (Nat × Nat)} (h : Grw σ τ xs sz o) {c : Nat} {cs : List AV} (hc : σ.box c = none) (hne : ∀ b cap, o = some (b, cap) → b ≠ c) : Grw σ (τ.setBox c cs) xs sz o := by
  refine ⟨le_setBox h.le hc, ?_⟩
  cases o with
  | none => exact h.row
  | some p =>
    obtain ⟨b, cap⟩ := p
    obtain ⟨h1, ⟨junk, h2, h3⟩, h4⟩ := h.row
    exact ⟨h1, ⟨junk, by rw [setBox_ne (hne b cap rfl)]; exact h2, h3⟩, h4⟩
theorem Grw.step {σ τ σ' : St} {xs : List AV} {y : AV} {sz n' b' cap' : Nat} {o : Option (Nat × Nat)} (h : Grw σ τ xs sz o) (q1 : RowV σ' sz (xs ++ [y]) (.msl b' 0 n' cap') (some b')) (q2 : o.map (·.1) = some b' ∨ τ.box b' = none) (q3 : ∀ i cs, o.map (·.1) ≠ some i → τ.box i = some cs → σ'.box i = some cs) (q4 : σ'.tok = τ.tok ∧ σ'.obj = τ.obj) : Grw σ σ' (xs ++ [y]) sz (some (b', cap')) := by
  have hfree : ∀ b, o.map (·.1) = some b → σ.box b = none := fun b e => by
    cases o with
    | none => cases e
    | some p =>
      obtain ⟨b0, c0⟩ := p
      cases e
      exact h.row.new
  refine ⟨⟨fun i cs e => ?_, fun t e => by rw [q4.1]; exact h.le.tok t e, fun l q e => by rw [q4.2]; exact h.le.obj l q e⟩, ?_⟩
  · refine q3 i cs (fun e2 => ?_) (h.le.box i cs e)
    rw [hfree i e2] at e; cases e
  · generalize hv : AV.msl b' 0 n' cap' = v at q1
    generalize hr : some b' = r at q1
    cases q1 with
    | nil hh => cases hr
    | own b0 c0 junk hb hc hl =>
      cases hr
      injection hv with e1 e2 e3 e4
      subst e4
      refine ⟨?_, ⟨junk, hb, hl⟩, hc⟩
      rcases q2 with q2 | q2
      · exact hfree _ q2
      · exact le_none h.le q2
theorem Grw.fin {σ τ : St} {xs : List AV} {sz b cap : Nat} (h : Grw σ τ xs sz (some (b, cap))) : ∃ junk, St.Le (σ.setBox b (xs.flatMap AV.cells ++ junk)) τ ∧ cap * sz ≤ (xs.flatMap AV.cells ++ junk).length := by
  obtain ⟨h1, ⟨junk, h2, h3⟩, h4⟩ := h.row
  refine ⟨junk, ⟨fun i cs e => ?_, h.le.tok, h.le.obj⟩, h3⟩
  by_cases hi : i = b
  · subst hi; rw [setBox_same] at e; cases e; exact h2
  · rw [setBox_ne hi] at e; exact h.le.box i cs e
theorem Grw.ne {σ0 σ : St} {xs : List AV} {sz b cap : Nat} (h : Grw σ0 σ xs sz (some (b, cap))) {c : Nat} (hc : (σ0.box c).isSome = true) : b ≠ c := by
  rintro rfl
  rw [h.row.new] at hc; cases hc
theorem Grw.base {σ0 σ1 σ : St} {xs : List AV} {sz : Nat} {o : Option (Nat × Nat)} (h : Grw σ1 σ xs sz o) (hl : St.Le σ0 σ1) : Grw σ0 σ xs sz o := by
  refine ⟨hl.trans h.le, ?_⟩
  cases o with
  | none => exact h.row
  | some p =>
    obtain ⟨b, cap⟩ := p
    obtain ⟨h1, h2, h3⟩ := h.row
    exact ⟨le_none hl h1, h2, h3⟩
theorem SLoop.weakBox {P : Program} {w0 : Base} {T : TT} {n : Nat} {c : Code} {k : SL → St → BL → Prop} {X : Nat → SL → St → BL → Prop} {R : SL → St → BL → Prop} {L : SL} {σ : St} {B : BL} (j : Nat) {b : Nat} {cs ds : List AV} (hb : nth B j = some (b, cs)) (hw : WeakL ds cs) (h : SLoop P w0 T n c k X R L (σ.setBox b ds) (setN B j (b, ds))) : SLoop P w0 T n c k X R L σ B := ⟨fun hT ho hB => W.weakBox (hB.get hb) hw (h.go hT ho (hB.set hb))⟩
theorem CallW.post {P : Program} {w0 : Base} {f : FuncId} {args : List AV} {σ : St} {K K' : AV → St → Prop} (h : CallW P w0 f args σ K)
    (k : ∀ G w r s v, K r s → Inv w0 G s w → Rel G w r v → ∃ r' s' G', K' r' s' ∧ Inv w0 G' s' w ∧ Ext G w G' w ∧ Rel G' w r' v) : CallW P w0 f args σ K' := ⟨fun G w vs hI hr => by
  refine (h.go G w vs hI hr).mono ?_
  rintro e w' ⟨v, r, σ', G1, rfl, hK, hI1, ex, hv⟩
  obtain ⟨r', s', G2, h1, h2, h3, h4⟩ := k G1 w' r σ' v hK hI1 hv
  exact ⟨v, r', s', G2, rfl, h1, h2, ex.trans h3, h4⟩⟩
end Go.Al
end
section
set_option linter.unusedVariables false
set_option linter.unusedSimpArgs false
namespace Go.Al
open Go.RowKit
theorem tag_ok {b tg e : Nat} (h : b % 4096 = tg) (he : tg ≠ 0 → e = tg) : ∀ t, tagOf b = some t → e = t := fun t ht => by
  unfold tagOf at ht
  split at ht
  · cases ht
  · rename_i hn
    cases ht
    rw [h] at hn ⊢
    exact he hn
theorem tag_of {b t : Nat} (h : b % 4096 = t) (h0 : t ≠ 0) : tagOf b = some t := by rw [tagOf, if_neg (by rw [h]; exact h0), h]
section
variable {P : Program} {w0 : Base} {E : AEnv} {σ : St} {o : Oper} {K : AV → St → Prop}
theorem w_appendNT {tg : Nat} (htg : tg < 4096) {t u e : TypeId} {i : TypeInfo} {z : Value} (hte : tg ≠ 0 → e = tg) (T : AppT P t u e i z) (s x : Operand) (ho : o.op = .call { callee := .builtin .append, args := #[s, x], argTypes := #[t, u] }) {ys : List AV}
    (hs : aeval E s = .nils) (hx : aSrc i.size (aeval E x) = some ys) (hne : ys ≠ []) (hf : AppFits i ys.length)
    (hk : ∀ b cap, b % 4096 = tg → σ.box b = none → ys.length ≤ cap → K (.msl b 0 ys.length cap) (σ.setBox b (ys.flatMap AV.cells ++ List.replicate ((cap - ys.length) * i.size) .und))) : OpW P w0 o E σ K := .value fun G w a hI hE => by
  have hsr := hE.get s (by simp [ho, Op.operands, Call.operands])
  rw [hs] at hsr
  have hxr := hE.get x (by simp [ho, Op.operands, Call.operands])
  have he : execOp a.eval o = (Builtin.append_ #[t, u] o.type #[a.eval s, a.eval x] >>= fun v => pure (.value v)) := by simp [execOp, ho, resolve, invoke, builtin]
  rw [he]
  generalize a.eval s = vsl at *
  generalize a.eval x = v at *
  obtain ⟨hl, vs, hfc, hrel, hvl, hys⟩ := src_run (P := P) hx hxr
  cases hsr
  have hpos : 0 < ys.length := List.length_pos_iff.2 hne
  obtain ⟨_, h2⟩ := append_run T o.type (A := none) (len := 0) (cap := 0) hl hfc
  let w1 : World := { w with drawn := w.drawn + 1 }
  have hA : Alike0 w w1 := ⟨rfl, rfl, rfl, rfl⟩
  obtain ⟨_, us, hfc', hrel', hul, _⟩ := src_run (P := P) hx (hxr.ext hA.ext)
  obtain ⟨nc, hnc, hnl, hrun⟩ := h2 (by omega) (by rw [Nat.zero_add]; exact hf.1) (by have := hf.2; simp only [maxLen] at this; omega) #[] us.toArray rfl hfc'
  rw [Nat.zero_add] at hnc hrun
  obtain ⟨b, ⟨hb, hbm⟩, hsb⟩ := fresh_at (hA.inv hI) tg htg
  have hlz : (Builtin.zeroCells z.cells (nc - ys.length)).toList.length = (nc - ys.length) * i.size := by rw [length_zeroCells, T.hs]
  have hcells : RelL G w1 (ys.flatMap AV.cells ++ List.replicate ((nc - ys.length) * i.size) .und) (#[] ++ us.toArray ++ Builtin.zeroCells z.cells (nc - ys.length)).toList := by
    have := hrel'.append (relL_und (G := G) (w := w1) (Builtin.zeroCells z.cells (nc - ys.length)).toList)
    rw [hlz] at this
    simpa using this
  obtain ⟨k1, k2⟩ := inv_boxT (hA.inv hI) hb e (tag_ok hbm hte) hcells
  exact ⟨_, _, _, _, _, by rw [Sem.run_bind, hrun]; rfl, hk b nc hbm hsb hnc, k1, hA.ext.trans k2, .msl (m := w1.heap.size) (by simp [Gh.withBox]) hnc (by simp only [maxLen]; omega)⟩
theorem w_appendMT {tg : Nat} (htg : tg < 4096) {t u e : TypeId} {i : TypeInfo} {z : Value} (hte : tg ≠ 0 → e = tg) (T : AppT P t u e i z) (s x : Operand) (ho : o.op = .call { callee := .builtin .append, args := #[s, x], argTypes := #[t, u] }) {ys cs : List AV} {b n cap : Nat}
    (hs : aeval E s = .msl b 0 n cap) (hb : σ.box b = some cs) (hcl : cap * i.size ≤ cs.length) (hn : n ≤ cap) (hx : aSrc i.size (aeval E x) = some ys) (hf : AppFits i (n + ys.length))
    (hk1 : n + ys.length ≤ cap → K (.msl b 0 (n + ys.length) cap) (σ.setBox b (setL cs (n * i.size) (ys.flatMap AV.cells))))
    (hk2 : ∀ b' cap', b' % 4096 = tg → σ.box b' = none → n + ys.length ≤ cap' → K (.msl b' 0 (n + ys.length) cap') (σ.setBox b' (cs.take (n * i.size) ++ ys.flatMap AV.cells ++ List.replicate ((cap' - (n + ys.length)) * i.size) .und))) : OpW P w0 o E σ K := .value fun G w a hI hE => by
  have hsr := hE.get s (by simp [ho, Op.operands, Call.operands])
  rw [hs] at hsr
  have hxr := hE.get x (by simp [ho, Op.operands, Call.operands])
  have he : execOp a.eval o = (Builtin.append_ #[t, u] o.type #[a.eval s, a.eval x] >>= fun v => pure (.value v)) := by simp [execOp, ho, resolve, invoke, builtin]
  rw [he]
  generalize a.eval s = vsl at *
  generalize a.eval x = v at *
  obtain ⟨hl, vs, hfc, hrel, hvl, hys⟩ := src_run (P := P) hx hxr
  cases hsr with
  | msl hgb hc hm =>
    rename_i mm
    obtain ⟨m, c, T', k1, k2, k3, k4, k5⟩ := (hI.box b cs hb).ex
    obtain rfl : m = mm := by rw [k1] at hgb; exact Option.some.inj hgb
    have hcsz : cs.length = c.size := by rw [← k4.length]; simp
    obtain ⟨h1, h2⟩ := append_run T o.type (A := some ⟨m, 0, none⟩) (len := n) (cap := cap) hl hfc
    by_cases hroom : n + ys.length ≤ cap
    · have hmul : (n + ys.length) * i.size ≤ cap * i.size := Nat.mul_le_mul_right _ hroom
      have hadd : (n + ys.length) * i.size = n * i.size + ys.length * i.size := Nat.add_mul ..
      obtain ⟨w', hrun, R⟩ := run_storeCells P m T' (0, 0) (n * i.size) vs 0 c w k3 (.inl rfl) (by omega) (relL_oneCell hrel (fun x hx => by
        obtain ⟨y, hy, hc⟩ := List.mem_flatMap.1 hx
        exact (hys y hy).2 x hc))
      rw [Nat.add_zero] at R
      obtain ⟨hI', ex⟩ := hI.write (cs' := setL cs (n * i.size) (ys.flatMap AV.cells)) hb k1 k3 k5 k2 R (fun e => setAll_rel (n * i.size) (hrel.ext e) (k4.ext e))
      refine ⟨.slice (some ⟨m, 0, none⟩) (n + ys.length) cap, w', _, _, _, ?_, hk1 hroom, hI', ex, .msl k1 hroom hm⟩
      rw [Sem.run_bind, h1 hroom]
      simp only [addr_add, Nat.zero_add, hrun, Result.andThen_ok]
      rfl
    · let w1 : World := { w with drawn := w.drawn + 1 }
      have hA : Alike0 w w1 := ⟨rfl, rfl, rfl, rfl⟩
      obtain ⟨_, us, hfc', hrel', hul, _⟩ := src_run (P := P) hx (hxr.ext hA.ext)
      have hfirst : (Builtin.firstCells i.size n (.slice (some ⟨m, 0, none⟩) n cap)).run P w1 = .ok (c.toList.take (n * i.size)).toArray w1 := by
        have hnm : n * i.size ≤ cap * i.size := Nat.mul_le_mul_right _ hn
        have hlen : (c.toList.take (n * i.size)).length = n * i.size := by simp; omega
        simp only [Builtin.firstCells]
        have := run_loadCells_list (P := P) w1 ⟨m, 0, none⟩ (c.toList.take (n * i.size)) (fun j v hj => by
          rw [addr_add, Nat.zero_add, cell_block (w := w1) (c := c) (T := T') (fr := (0, 0)) k3]
          rw [List.getElem?_take] at hj
          split at hj
          · simpa using hj
          · cases hj)
        rw [hlen] at this
        exact this
      obtain ⟨nc, hnc, hnl, hrun⟩ := h2 (by omega) hf.1 (by have := hf.2; simp only [maxLen] at this; omega) (c.toList.take (n * i.size)).toArray us.toArray hfirst hfc'
      obtain ⟨b', ⟨hb', hbm⟩, hsb⟩ := fresh_at (hA.inv hI) tg htg
      have hlz : (Builtin.zeroCells z.cells (nc - (n + ys.length))).toList.length = (nc - (n + ys.length)) * i.size := by rw [length_zeroCells, T.hs]
      have hcells : RelL G w1 (cs.take (n * i.size) ++ ys.flatMap AV.cells ++ List.replicate ((nc - (n + ys.length)) * i.size) .und) ((c.toList.take (n * i.size)).toArray ++ us.toArray ++ Builtin.zeroCells z.cells (nc - (n + ys.length))).toList := by
        have := (((k4.ext hA.ext).take (n * i.size)).append hrel').append (relL_und (G := G) (w := w1) (Builtin.zeroCells z.cells (nc - (n + ys.length))).toList)
        rw [hlz] at this
        simpa using this
      obtain ⟨q1, q2⟩ := inv_boxT (hA.inv hI) hb' e (tag_ok hbm hte) hcells
      exact ⟨_, _, _, _, _, by rw [Sem.run_bind, hrun]; rfl, hk2 b' nc hbm hsb hnc, q1, hA.ext.trans q2, .msl (m := w1.heap.size) (by simp [Gh.withBox]) hnc (by simp only [maxLen]; omega)⟩
theorem w_toUnsafe {src dst t : TypeId} {j : TypeInfo} (x : Operand) (ho : o.op = .convert src dst x) (hs : P.underlying src = some (.pointer t)) (hd : P.underlying dst = some .unsafePointer) (ht : P.info? t = some j) (hj : j.size ≠ 0) {b off : Nat} {cs : List AV}
    (hx : aeval E x = .ptr b off) (hb : σ.box b = some cs) (hoff : off < cs.length) (hk : K (.ptr b off) σ) : OpW P w0 o E σ K := .value fun G w a hI hE => by
  have hxr := hE.get x (by simp [ho, Op.operands])
  rw [hx] at hxr
  have he : execOp a.eval o = (convert src dst (a.eval x) >>= fun v => pure (.value v)) := by simp only [execOp, ho]
  rw [he]
  generalize a.eval x = v at *
  cases hxr with
  | @ptr _ _ m hgb =>
  obtain ⟨m', c, T, h1, h2, h3, h4, h5⟩ := (hI.box b cs hb).ex
  obtain rfl : m' = m := by rw [h1] at hgb; exact Option.some.inj hgb
  have hl : c.size = cs.length := by rw [← h4.length]; simp
  have hsh : w.shape? m' = some (T, c.size) := by simp [World.shape?, h3]
  exact ⟨_, w, G, .ptr b off, σ, by rw [Sem.run_bind, Lib.run_to_unsafe w ⟨m', off, none⟩ hs hd ht hj hsh (by rw [hl]; exact hoff)]; rfl, hk, hI, .refl _ _, .ptr h1⟩
theorem w_fromUnsafe {src dst u e n : TypeId} {j : TypeInfo} (x : Operand) (ho : o.op = .convert src dst x) (hs : P.underlying src = some .unsafePointer) (hd : P.underlying dst = some (.pointer u)) (hu : P.info? u = some j) {b off : Nat} {cs : List AV}
    (hx : aeval E x = .ptr b off) (hb : σ.box b = some cs) (hn : cs.length = n) (htag : tagOf b = some e) (hl : liesAt P P.depth e (n / P.cellsOf e) off u 1 = true) (hk : K (.ptr b off) σ) : OpW P w0 o E σ K := .value fun G w a hI hE => by
  have hxr := hE.get x (by simp [ho, Op.operands])
  rw [hx] at hxr
  have he : execOp a.eval o = (convert src dst (a.eval x) >>= fun v => pure (.value v)) := by simp only [execOp, ho]
  rw [he]
  generalize a.eval x = v at *
  cases hxr with
  | @ptr _ _ m hgb =>
  obtain ⟨m', c, T, h1, h2, h3, h4, h5⟩ := (hI.box b cs hb).ex
  obtain rfl : m' = m := by rw [h1] at hgb; exact Option.some.inj hgb
  obtain rfl : T = e := h5.tag e htag
  have hls : c.size = n := by rw [← hn, ← h4.length]; simp
  have hsh : w.shape? m' = some (T, n) := by rw [← hls]; simp [World.shape?, h3]
  exact ⟨_, w, G, .ptr b off, σ, by rw [Sem.run_bind, Lib.run_from_unsafe w ⟨m', off, none⟩ hs hd hu hsh hl]; rfl, hk, hI, .refl _ _, .ptr h1⟩
theorem w_neqPtr {tp te yt : TypeId} {j : TypeInfo} (x y : Operand) (ho : o.op = .binOp .neq tp x y yt) (hp : P.underlying tp = some (.pointer te)) (ht : P.info? te = some j) {b off : Nat} (hx : aeval E x = .ptr b off) (hy : aeval E y = .ptr b off) (hk : K (.bool false) σ) : OpW P w0 o E σ K := .value fun G w a hI hE => by
  have hxr := hE.get x (by simp [ho, Op.operands])
  have hyr := hE.get y (by simp [ho, Op.operands])
  rw [hx] at hxr; rw [hy] at hyr
  have he : execOp a.eval o = (do eqGuard .neq tp x y (a.eval x) (a.eval y); binOp .neq tp (a.eval x) (a.eval y) : Sem Value) >>= fun v => pure (.value v) := by simp only [execOp, ho]
  rw [he]
  generalize a.eval x = v at *
  generalize a.eval y = u at *
  cases hxr with
  | @ptr _ _ m hgb =>
  cases hyr with
  | @ptr _ _ m2 hgb2 =>
  obtain rfl : m = m2 := by rw [hgb] at hgb2; exact Option.some.inj hgb2
  have hg : (eqGuard .neq tp x y (.pointer (some ⟨m, off, none⟩)) (.pointer (some ⟨m, off, none⟩))).run P w = .ok () w := by simp [eqGuard]
  exact ⟨_, w, G, .bool false, σ, by rw [Sem.run_bind, Sem.run_bind, hg, Result.andThen_ok, Lib.run_neq_ptr_same w ⟨m, off, none⟩ hp ht]; rfl, hk, hI, .refl _ _, .bool _⟩
theorem Inv.frozen {G : Gh} {w : World} {b m : Nat} {cs : List AV} (hI : Inv w0 G σ w) (hb : σ.box b = some cs) (hm : G.box b = some m) (n : Nat) : Inv w0 G (σ.del b) (w.freeze ⟨m, 0, none⟩ n) ∧ Ext G w G (w.freeze ⟨m, 0, none⟩ n) := by
  obtain ⟨m', c, T, h1, h2, h3, h4, h5⟩ := (hI.box b cs hb).ex
  obtain rfl : m' = m := by rw [h1] at hm; exact Option.some.inj hm
  have hheap : (∃ fr, (w.freeze ⟨m', 0, none⟩ n).heap[m']? = some (.cells c T fr)) ∧ (∀ k, k ≠ m' → (w.freeze ⟨m', 0, none⟩ n).heap[k]? = w.heap[k]?) ∧ (w.freeze ⟨m', 0, none⟩ n).heap.size = w.heap.size ∧ (w.freeze ⟨m', 0, none⟩ n).os = w.os ∧ (w.freeze ⟨m', 0, none⟩ n).tape = w.tape ∧ (w.freeze ⟨m', 0, none⟩ n).output = w.output := by
    by_cases hn : n = 0
    · simp [World.freeze, hn, h3]
    · refine ⟨⟨if (0 : Nat) = 0 then (0, n) else (0, max 0 n), ?_⟩, fun k hk => ?_, ?_, ?_, ?_, ?_⟩
      · simp [World.freeze, hn, Array.getElem?_modify, h3]
      · simp [World.freeze, hn, Array.getElem?_modify, Ne.symm hk]
      · simp [World.freeze, hn]
      · simp [World.freeze, hn]
      · simp [World.freeze, hn]
      · simp [World.freeze, hn]
  obtain ⟨⟨fr, hfr⟩, hoth, hz, hos, htp, hou⟩ := hheap
  have R : Rewrote w (w.freeze ⟨m', 0, none⟩ n) m' c T fr := ⟨hfr, hoth, hz, hos, htp, hou⟩
  have e : Ext G w G (w.freeze ⟨m', 0, none⟩ n) := by
    refine ⟨rfl, fun _ _ h => h, fun _ _ h => h, fun _ _ h => h, fun b' o v hs hv => ?_, .of (by rw [R.size]; exact Nat.le_refl _) fun k o hko ho => ?_⟩
    · by_cases hk : b' = m'
      · subst hk; rw [cell_block h3] at hv; rw [cell_block hfr]; exact hv
      · rw [cell_same (w := w) (hoth b' hk)]; exact hv
    · rw [hoth k fun hk => by rw [hk, h3] at hko; cases hko; cases ho]; exact hko
  have hI' := hI.drop (del_le σ b)
  refine ⟨⟨hI'.base, R.below h2 hI'.old, fun i ds hi => ?_, hI'.binj, fun t ht => ?_, hI'.tinj, hI'.apart, fun b' o h => by rw [R.size]; exact hI'.immlt b' o h, fun i x h => by rw [R.size]; exact hI'.boxlt i x h, fun i x y l h => by rw [R.size]; exact hI'.toklt i x y l h, hI'.fresh, fun l o hr => (hI'.obj l o hr).ext e fun k q hk hq => (hoth k fun hkm => by rw [hkm, h3] at hk; cases hk; cases hq).trans hk⟩, e⟩
  · have hi0 : σ.box i = some ds := (del_le σ b).box i ds hi
    have hne : i ≠ b := by rintro rfl; rw [del_none] at hi; cases hi
    obtain ⟨m2, c2, T2, k1, k2, k3, k4, k5⟩ := (hI.box i ds hi0).ex
    have hmn : m2 ≠ m' := fun h => hne (hI.binj i b m2 (by rw [hi0]; rfl) (by rw [hb]; rfl) k1 (h ▸ h1))
    exact ⟨m2, c2, T2, k1, k2, by rw [hoth m2 hmn]; exact k3, k4.ext e, k5⟩
  · obtain ⟨m2, a, lim, c2, T2, fr2, k1, k2, k3, k4, k5, k6⟩ := (hI.tok t ht).ex
    have hmn : m2 ≠ m' := fun h => hI.apart b t m2 a lim (by rw [hb]; rfl) ht (h ▸ h1) k1
    exact ⟨m2, a, lim, c2, T2, fr2, k1, k2, by rw [hoth m2 hmn]; exact k3, k4, k5, k6⟩
theorem rel_aBytes {G : Gh} {w : World} {l : List UInt8} {vs : List Value} (h : RelL G w (aBytes l) vs) (j : Nat) (x : UInt8) (hx : l[j]? = some x) : vs[j]? = some (Value.int .u8 x.toNat) := by
  have : (aBytes l)[j]? = some (.int .u8 x.toNat) := by simp [aBytes, aByte, hx]
  obtain ⟨v, h1, h2⟩ := h.get this
  cases h2
  exact h1
theorem w_uString {pt it e : TypeId} (p n : Operand) (ho : o.op = .call { callee := .builtin .unsafeString, args := #[p, n], argTypes := #[pt, it] }) (hp : P.underlying pt = some (.pointer e)) (hc : P.cellsOf e = 1) {b : Nat} {cs : List AV} {l : List UInt8}
    (hx : aeval E p = .ptr b 0) (hn : aeval E n = .int .i64 l.length) (hb : σ.box b = some cs) (htag : tagOf b = some e) (hcs : cs.take l.length = aBytes l) (h0 : l ≠ []) (hm : l.length ≤ 9223372036854775807) (hk : K (.str l) (σ.del b)) : OpW P w0 o E σ K := .value fun G w a hI hE => by
  have hxr := hE.get p (by simp [ho, Op.operands, Call.operands])
  have hnr := hE.get n (by simp [ho, Op.operands, Call.operands])
  rw [hx] at hxr; rw [hn] at hnr
  have he : execOp a.eval o = (Builtin.unsafeString_ #[pt, it] o.type #[a.eval p, a.eval n] >>= fun v => pure (.value v)) := by simp [execOp, ho, resolve, invoke, builtin]
  rw [he]
  generalize a.eval p = v at *
  generalize a.eval n = u at *
  cases hnr
  cases hxr with
  | @ptr _ _ m hgb =>
  obtain ⟨m', c, T, h1, h2, h3, h4, h5⟩ := (hI.box b cs hb).ex
  obtain rfl : m' = m := by rw [h1] at hgb; exact Option.some.inj hgb
  obtain rfl : T = e := h5.tag e htag
  have hlc : (aBytes l).length = l.length := by simp [aBytes]
  have hle : l.length ≤ cs.length := by
    have := congrArg List.length hcs
    rw [hlc, List.length_take] at this
    omega
  have hls : c.size = cs.length := by rw [← h4.length]; simp
  have hsh : w.shape? m' = some (T, c.size) := by simp [World.shape?, h3]
  have hr := h4.take l.length
  rw [hcs] at hr
  have hrun := Lib.run_unsafeString_row (P := P) w pt it o.type T hp hc m' c.size hsh l h0 (by omega) hm (by
    intro j x hj
    have := rel_aBytes hr j x hj
    rw [List.getElem?_take] at this
    split at this
    · rw [addr_add, Nat.zero_add, cell_block h3]; simpa using this
    · cases this)
  obtain ⟨k1, k2⟩ := hI.frozen hb h1 l.length
  exact ⟨_, _, G, .str l, σ.del b, by rw [Sem.run_bind, hrun]; rfl, hk, k1, k2, .str l⟩
end
section
variable {P : Program} {w0 : Base} {T : TT} {L : SL} {σ : St} {B : BL} {K : AV → St → BL → Prop}
theorem SOper.toU {src dst t : TypeId} {j : TypeInfo} {x : Operand} (i : Nat) {b off : Nat} {cs : List AV} (hx : ev L x = .ptr b off) (hb : nth B i = some (b, cs)) (hs : P.underlying src = some (.pointer t)) (hd : P.underlying dst = some .unsafePointer) (ht : P.info? t = some j) (hj : j.size ≠ 0) (hoff : off < cs.length) (k : K (.ptr b off) σ B) : SOper P w0 T (.convert src dst x) L σ B K :=
  ⟨fun hT hB o ho => w_toUnsafe x ho hs hd ht hj (by rw [← ev_eq]; exact hx) (hB.get hb) hoff ⟨B, hB, k⟩⟩
theorem SOper.ofU {src dst u e n : TypeId} {j : TypeInfo} {x : Operand} (i : Nat) {b off : Nat} {cs : List AV} (hx : ev L x = .ptr b off) (hb : nth B i = some (b, cs)) (hn : cs.length = n) (htag : tagOf b = some e) (hs : P.underlying src = some .unsafePointer) (hd : P.underlying dst = some (.pointer u)) (hu : P.info? u = some j) (hl : liesAt P P.depth e (n / P.cellsOf e) off u 1 = true) (k : K (.ptr b off) σ B) : SOper P w0 T (.convert src dst x) L σ B K :=
  ⟨fun hT hB o ho => w_fromUnsafe x ho hs hd hu (by rw [← ev_eq]; exact hx) (hB.get hb) hn htag hl ⟨B, hB, k⟩⟩
theorem SOper.neqP {tp te yt : TypeId} {j : TypeInfo} {x y : Operand} {b off : Nat} (hx : ev L x = .ptr b off) (hy : ev L y = .ptr b off) (hp : P.underlying tp = some (.pointer te)) (ht : P.info? te = some j) (k : K (.bool false) σ B) : SOper P w0 T (.binOp .neq tp x y yt) L σ B K :=
  ⟨fun hT hB o ho => w_neqPtr x y ho hp ht (by rw [← ev_eq]; exact hx) (by rw [← ev_eq]; exact hy) ⟨B, hB, k⟩⟩
theorem SOper.uStr {pt it e : TypeId} {p n : Operand} (i : Nat) {b : Nat} {cs : List AV} {l : List UInt8} (hx : ev L p = .ptr b 0) (hn : ev L n = .int .i64 l.length) (hb : nth B i = some (b, cs)) (htag : tagOf b = some e) (hp : P.underlying pt = some (.pointer e)) (hc : P.cellsOf e = 1) (hcs : cs.take l.length = aBytes l) (h0 : l ≠ []) (hm : l.length ≤ 9223372036854775807) (k : K (.str l) (σ.del b) []) : SOper P w0 T (.call ⟨.builtin .unsafeString, #[p, n], #[pt, it]⟩) L σ B K :=
  ⟨fun hT hB o ho => w_uString p n ho hp hc (by rw [← ev_eq]; exact hx) (by rw [← ev_eq]; exact hn) (hB.get hb) htag hcs h0 hm ⟨[], .nil _, k⟩⟩
theorem w_uString0 {E : AEnv} {o : Oper} {K : AV → St → Prop} {pt it : TypeId} (p n : Operand) (ho : o.op = .call { callee := .builtin .unsafeString, args := #[p, n], argTypes := #[pt, it] }) (hx : aeval E p = .nilp ∨ ∃ b off, aeval E p = .ptr b off) (hn : aeval E n = .int .i64 0) (hk : K (.str []) σ) : OpW P w0 o E σ K := .value fun G w a hI hE => by
  have hxr := hE.get p (by simp [ho, Op.operands, Call.operands])
  have hnr := hE.get n (by simp [ho, Op.operands, Call.operands])
  rw [hn] at hnr
  have he : execOp a.eval o = (Builtin.unsafeString_ #[pt, it] o.type #[a.eval p, a.eval n] >>= fun v => pure (.value v)) := by simp [execOp, ho, resolve, invoke, builtin]
  rw [he]
  generalize a.eval p = v at *
  generalize a.eval n = u at *
  cases hnr
  obtain ⟨q, rfl⟩ : ∃ q, v = .pointer q := by
    rcases hx with hx | ⟨b, off, hx⟩
    · rw [hx] at hxr; cases hxr; exact ⟨_, rfl⟩
    · rw [hx] at hxr; cases hxr; exact ⟨_, rfl⟩
  exact ⟨_, w, G, .str [], σ, by rw [Sem.run_bind, Lib.run_unsafeString_none]; rfl, hk, hI, .refl _ _, .str []⟩
theorem SOper.uStr0 {pt it : TypeId} {p n : Operand} (hx : ev L p = .nilp ∨ ∃ b off, ev L p = .ptr b off) (hn : ev L n = .int .i64 0) (k : K (.str []) σ B) : SOper P w0 T (.call ⟨.builtin .unsafeString, #[p, n], #[pt, it]⟩) L σ B K :=
  ⟨fun hT hB o ho => w_uString0 p n ho (by rw [ev_eq] at hx; exact hx) (by rw [← ev_eq]; exact hn) ⟨B, hB, k⟩⟩
structure RowT (τ : St) (tg : Nat) (bs : List AV) (v : AV) (o : Option Nat) : Prop where
  go : (bs = [] ∧ v = .nils ∧ o = none) ∨ ∃ b cap junk, v = .msl b 0 bs.length cap ∧ o = some b ∧ tagOf b = some tg ∧ τ.box b = some (bs ++ junk) ∧ bs.length ≤ cap ∧ cap ≤ (bs ++ junk).length ∧ cap ≠ 0
theorem flat_id : ∀ {l : List AV}, (∀ x ∈ l, x.cells = [x]) → l.flatMap AV.cells = l
  | [], _ => rfl
  | x :: l, h => by rw [List.flatMap_cons, h x (by simp), flat_id fun y hy => h y (by simp [hy])]; rfl
theorem SApp.rowT {a b bytes : TypeId} {u v : AV} {bs ys : List AV} {o : Option Nat} {tg n' : Nat} (hn : bs.length + ys.length = n') (hu : RowT σ tg bs u o) (hy : aSrc 1 v = some ys) (hne : ys ≠ []) [hi : AppI P a b 1 bytes] (hty : P.underlying a = some (.slice tg)) (htg : 0 < tg ∧ tg < 4096) (h1 : ∀ x ∈ bs ++ ys, x.cells = [x]) (hf : (bs.length + ys.length) * bytes ≤ 140737488355328) (hB : ∀ p ∈ B, o ≠ some p.1)
    (k : ∀ b' cap' σ', RowT σ' tg (bs ++ ys) (.msl b' 0 n' cap') (some b') → (o = some b' ∨ σ.box b' = none) → (∀ i cs, o ≠ some i → σ.box i = some cs → σ'.box i = some cs) → (σ'.tok = σ.tok ∧ σ'.obj = σ.obj) → K (.msl b' 0 n' cap') σ' B) : SApp P w0 a b u v σ B K := ⟨fun hBk op E s x ho hs hx => by
  subst hn
  subst hx
  obtain ⟨e, inf, z, T, hsz, rfl, hpos⟩ := hi.h
  obtain rfl : e = tg := by
    have := T.ht
    rw [hty] at this
    cases this
    rfl
  have hk0 : ∀ (σ' : St), (∀ i cs, o ≠ some i → σ.box i = some cs → σ'.box i = some cs) → Know σ' B := fun σ' h => ⟨fun p hp => h _ _ (hB p hp) (hBk.has p hp), hBk.nd⟩
  have hfy : ys.flatMap AV.cells = ys := flat_id fun x hx => h1 x (by simp [hx])
  have hyp : 0 < ys.length := List.length_pos_iff.2 hne
  rw [← hsz] at hy
  rcases hu.go with ⟨rfl, rfl, rfl⟩ | ⟨b0, cap, junk, rfl, rfl, htag, hb, hc, hl, hc0⟩
  · have hfit : AppFits inf ys.length := ⟨by simpa using hf, by
      have : ys.length ≤ ys.length * inf.bytes := Nat.le_mul_of_pos_right _ hpos
      simp only [List.length_nil, Nat.zero_add] at hf
      simp only [maxLen]; omega⟩
    refine w_appendNT htg.2 (fun _ => rfl) T s x ho hs hy hne hfit fun b' cap' hm hn hcap => ?_
    rw [hfy, hsz, Nat.mul_one]
    refine ⟨B, hk0 _ fun i cs _ hi => ?_, ?_⟩
    · rw [setBox_ne (by rintro rfl; rw [hn] at hi; cases hi)]; exact hi
    · have := k b' cap' (σ.setBox b' (ys ++ List.replicate (cap' - ys.length) .und)) ⟨.inr ⟨b', cap', List.replicate (cap' - ys.length) .und, by simp, rfl, tag_of hm (by omega), by simpa using setBox_same, by simpa using hcap, by simp; omega, by omega⟩⟩ (.inr hn) (fun i cs _ hi => by rw [setBox_ne (by rintro rfl; rw [hn] at hi; cases hi)]; exact hi) ⟨rfl, rfl⟩
      simpa using this
  · have hfit : AppFits inf (bs.length + ys.length) := ⟨hf, by
      have : bs.length + ys.length ≤ (bs.length + ys.length) * inf.bytes := Nat.le_mul_of_pos_right _ hpos
      simp only [maxLen]; omega⟩
    refine w_appendMT htg.2 (fun _ => rfl) T s x ho hs hb (by rw [hsz, Nat.mul_one]; exact hl) hc hy hfit (fun hroom => ?_) fun b' cap' hm hn hcap => ?_
    · rw [hfy, hsz, Nat.mul_one]
      have hs' : setL (bs ++ junk) bs.length ys = (bs ++ ys) ++ junk.drop ys.length := setL_app ys bs junk (by rw [List.length_append] at hl; omega)
      rw [hs']
      refine ⟨B, hk0 _ fun i cs hi h0 => ?_, k b0 cap _ ⟨.inr ⟨b0, cap, junk.drop ys.length, by simp, rfl, htag, setBox_same, by simpa using hroom, by simp at hl ⊢; omega, hc0⟩⟩ (.inl rfl) (fun i cs hi h0 => ?_) ⟨rfl, rfl⟩⟩
      · rw [setBox_ne (fun e => hi (by rw [e]))]; exact h0
      · rw [setBox_ne (fun e => hi (by rw [e]))]; exact h0
    · rw [hfy, hsz, Nat.mul_one, Nat.mul_one, List.take_left']
      · refine ⟨B, hk0 _ fun i cs hi h0 => ?_, k b' cap' _ ⟨.inr ⟨b', cap', List.replicate (cap' - (bs.length + ys.length)) .und, by simp, rfl, tag_of hm (by omega), setBox_same, by simpa using hcap, by simp; omega, by omega⟩⟩ (.inr hn) (fun i cs hi h0 => ?_) ⟨rfl, rfl⟩⟩
        · rw [setBox_ne (by rintro rfl; rw [hn] at h0; cases h0)]; exact h0
        · rw [setBox_ne (by rintro rfl; rw [hn] at h0; cases h0)]; exact h0
      · rfl⟩
end
end Go.Al
end
section
set_option linter.unusedVariables false
set_option linter.unusedSimpArgs false
namespace Go.Al
open Go.RowKit
def eqIfc : AV → AV → Option Bool
  | .ifc t x, .ifc u y => if t = u then eqCell x y else none
  | _, _ => none
def eqIfcs : List AV → List AV → Option Bool
  | [], [] => some true
  | x :: xs, y :: ys => match eqIfc x y, eqIfcs xs ys with
    | some a, some b => some (a && b)
    | _, _ => none
  | _, _ => none
def ifcD (P : Program) : AV → Bool
  | .ifc t x => (((P.underlying t).map (cellD x)).getD false) && (((P.info? t).map (·.comparable)).getD false)
  | _ => false
class IfcEq (P : Program) (t : TypeId) (n : Nat) : Prop where
  h : ∃ e ms i, P.underlying t = some (.array n e) ∧ P.underlying e = some (.interface ms) ∧ P.info? e = some i ∧ P.cellsOf e = 1 ∧ P.eqGuardType P.depth t = false
theorem run_isAgg_iface {P : Program} {w : World} {e : TypeId} {ms} (hu : P.underlying e = some (.interface ms)) : (isAgg e).run P w = .ok false w := by
  rw [run_isAgg hu]
  rfl
theorem run_part_iface {P : Program} {w : World} {e : TypeId} {ms} {cs : Array Value} {k : Nat} {v : Value} (hu : P.underlying e = some (.interface ms)) (hv : cs[k]? = some v) : (part e cs k).run P w = .ok v w := by
  unfold part
  rw [Sem.run_bind, run_isAgg_iface hu]
  simp [hv]
theorem run_eqIfc {P : Program} {G : Gh} {w : World} {d : Nat} {e : TypeId} {ms} {x y : AV} {u v : Value} {b : Bool} (hu : P.underlying e = some (.interface ms)) (hc : ifcD P x = true) (hx : Rel G w x u) (hy : Rel G w y v) (h : eqIfc x y = some b) : (Op.equalIn (d + 2) e u v).run P w = .ok b w := by
  unfold eqIfc at h
  split at h
  · rename_i t x' t' y'
    split at h
    · rename_i ht
      subst ht
      cases hx with
      | ifc hx =>
      cases hy with
      | ifc hy =>
      simp only [ifcD, Bool.and_eq_true] at hc
      obtain ⟨h1, h2⟩ := hc
      cases hd : P.underlying t with
      | none => rw [hd] at h1; cases h1
      | some D =>
        rw [hd] at h1
        cases hi : P.info? t with
        | none => rw [hi] at h2; cases h2
        | some i =>
          rw [hi] at h2
          have h2 : i.comparable = true := h2
          rw [Op.equalIn]
          simp only [Sem.run_bind, run_underlying hu, Result.andThen_ok, ne_eq, not_true_eq_false, if_false, ite_false, run_typeInfo w hi, h2, Bool.not_true, Bool.false_eq_true]
          exact run_eqCell hd h1 hx hy h
    · cases h
  · cases h
theorem run_eqIfcs {P : Program} {G : Gh} {w : World} {d : Nat} {e : TypeId} {ms} {X Y : Array Value} (hu : P.underlying e = some (.interface ms)) : ∀ (n k : Nat) (xs ys : List AV) (b : Bool), xs.length = n → (∀ x ∈ xs, ifcD P x = true) → RelL G w xs (X.toList.drop k) → RelL G w ys (Y.toList.drop k) → eqIfcs xs ys = some b → (Op.eqItems (d + 2) e 1 X Y (List.range' k n)).run P w = .ok b w
  | 0, k, xs, ys, b, hn, hf, hx, hy, h => by
    cases xs with
    | cons x xs => simp at hn
    | nil =>
      cases ys with
      | nil => simp only [eqIfcs, Option.some.injEq] at h; subst h; rfl
      | cons y ys => simp [eqIfcs] at h
  | n + 1, k, xs, ys, b, hn, hf, hx, hy, h => by
    cases xs with
    | nil => simp at hn
    | cons x xs =>
    cases ys with
    | nil => simp [eqIfcs] at h
    | cons y ys =>
      rw [eqIfcs] at h
      cases ha : eqIfc x y with
      | none => rw [ha] at h; simp at h
      | some a =>
        cases hb : eqIfcs xs ys with
        | none => rw [ha, hb] at h; simp at h
        | some b' =>
          rw [ha, hb] at h
          simp only [Option.some.injEq] at h
          obtain ⟨u, hu', hxu⟩ := hx.get (i := 0) rfl
          obtain ⟨v, hv', hyv⟩ := hy.get (i := 0) rfl
          have hX : X[k * 1]? = some u := by rw [Nat.mul_one, ← Array.getElem?_toList]; rw [List.getElem?_drop] at hu'; simpa using hu'
          have hY : Y[k * 1]? = some v := by rw [Nat.mul_one, ← Array.getElem?_toList]; rw [List.getElem?_drop] at hv'; simpa using hv'
          have hx2 : RelL G w xs (X.toList.drop (k + 1)) := by
            have := hx.drop 1
            rw [List.drop_drop] at this
            simpa using this
          have hy2 : RelL G w ys (Y.toList.drop (k + 1)) := by
            have := hy.drop 1
            rw [List.drop_drop] at this
            simpa using this
          have ih := run_eqIfcs (d := d) hu n (k + 1) xs ys b' (by simpa using hn) (fun z hz => hf z (List.mem_cons_of_mem _ hz)) hx2 hy2 hb
          rw [List.range'_succ]
          simp only [Op.eqItems, Sem.run_bind, run_part_iface hu hX, run_part_iface hu hY, Result.andThen_ok, run_eqIfc (d := d) hu (hf x (by simp)) hxu hyv ha, Sem.run_ite]
          subst h
          cases a
          · simp
          · simp only [Bool.not_true, Bool.false_eq_true, if_false, Bool.true_and]
            exact ih
theorem ok_eqIfcs {P : Program} {E : AEnv} {o : Oper} {op : BinOp} {t yt : TypeId} {x y : Operand} {n : Nat} (ho : o.op = .binOp op t x y yt) (hT : IfcEq P t n) {xs ys : List AV} (hX : aeval E x = .agg xs) (hY : aeval E y = .agg ys) (hl : xs.length = n) (hf : ∀ z ∈ xs, ifcD P z = true) {b : Bool} (hb : eqIfcs xs ys = some b) {r : AV} (hr : aEqOp op b = some r) : OpOk P o E r := .plain fun G w a hE => by
  have hx := hE.get x (by simp [ho, Op.operands])
  have hy := hE.get y (by simp [ho, Op.operands])
  rw [hX] at hx; rw [hY] at hy
  obtain ⟨e, ms, i, h1, h2, h3, h4, h5⟩ := hT.h
  generalize hu : a.eval x = u at hx
  generalize hv : a.eval y = v at hy
  cases hx with
  | @agg _ us _ rx =>
    cases hy with
    | @agg _ vs _ ry =>
      have hrun := run_eqIfcs (P := P) (d := 9997) (X := us.toArray) (Y := vs.toArray) h2 n 0 xs ys b hl hf (by simpa using rx) (by simpa using ry) hb
      have heq : (Op.equalIn 10000 t (.agg us.toArray) (.agg vs.toArray)).run P w = .ok b w := by
        rw [run_equalIn_array w 9999 us.toArray vs.toArray h1 h3, h4, List.range_eq_range']
        exact hrun
      have hg : (eqGuard op t x y (.agg us.toArray) (.agg vs.toArray)).run P w = .ok () w := run_eqGuard_agg w op t x y _ _ h5
      cases op <;> simp only [aEqOp, reduceCtorEq, Option.some.injEq] at hr
      · subst hr
        refine ⟨.bool b, ?_, .bool b⟩
        simp only [execOp, ho, hu, hv, Sem.run_bind, hg, Result.andThen_ok, run_eql_struct, heq]
        rfl
      · subst hr
        refine ⟨.bool (!b), ?_, .bool _⟩
        simp only [execOp, ho, hu, hv, Sem.run_bind, hg, Result.andThen_ok, run_neq_struct, heq]
        rfl
theorem SEqR.ifc {P : Program} {T : TT} {op : BinOp} {t yt : TypeId} {x y : Operand} {L : SL} {K : AV → Prop} {n : Nat} [hT : IfcEq P t n] {xs ys : List AV} (hX : aeval (env L) x = .agg xs) (hY : aeval (env L) y = .agg ys) (hl : xs.length = n) (hf : ∀ z ∈ xs, ifcD P z = true) {b : Bool} (hb : eqIfcs xs ys = some b) {r : AV} (hr : aEqOp op b = some r) (k : K r) : SEqR P T (.binOp op t x y yt) L K :=
  ⟨fun _ => ⟨r, fun o ho => ok_eqIfcs ho hT hX hY hl hf hb hr, k⟩⟩
end Go.Al
end
section
set_option linter.unusedVariables false
set_option linter.unusedSimpArgs false
namespace Go.Al
open Go.RowKit
section
variable {H : Type} {enc : TypeId × Value → H} {P : Program} {W : World}
def Lig (P : Program) (t : TypeId) (d : DataW H) : Prop := ∀ n ∈ d.weights P t, n ≤ reachBytes
structure Opens (enc : TypeId × Value → H) (P : Program) (W : World) (t : TypeId) (k : Nat) {α : Type} (mk : α → List AV) (Q : α → Prop) : Prop where
  size : P.cellsOf t = k
  lay : ∀ y, (mk y).length = k ∧ ∀ c ∈ mk y, c.one = true
  go : ∀ (fuel : Nat) (cs : List Value) (x : DataW H × List MemPlace), DataW.trod enc P W 0 (fun _ => true) true fuel t cs = some x → Lig P t x.1 → ∃ y, Q y ∧ RelL (G0 W) W (mk y) cs
theorem Opens.map {t : TypeId} {k : Nat} {α β : Type} {mk : α → List AV} {mk' : β → List AV} {Q : α → Prop} {Q' : β → Prop} (h : Opens enc P W t k mk Q) (g : α → β) (h1 : ∀ y, mk' (g y) = mk y) (h2 : ∀ y, Q y → Q' (g y)) (hl : ∀ z, (mk' z).length = k ∧ ∀ c ∈ mk' z, c.one = true) : Opens enc P W t k mk' Q' :=
  ⟨h.size, hl, fun fuel cs x hx hw => by
    obtain ⟨y, q, r⟩ := h.go fuel cs x hx hw
    exact ⟨g y, h2 y q, by rw [h1]; exact r⟩⟩
theorem Opens.int {t : TypeId} {ik : IntKind} {Q : Int → Prop} (ht : P.underlying t = some (.int ik)) (hs : P.cellsOf t = 1) (hq : ∀ n, (Lit.int ik n).wf = true → Q n) : Opens enc P W t 1 (fun n : Int => [.int ik n]) Q :=
  ⟨hs, fun y => ⟨rfl, fun c hc => by simp at hc; subst hc; rfl⟩, fun fuel cs x hx hw => by
    obtain ⟨n, rfl, rfl, h⟩ := DataW.trod_int ht hx
    exact ⟨n, hq n h, .cons (.int _ _) .nil⟩⟩
theorem Opens.bool {t : TypeId} (ht : P.underlying t = some .bool) (hs : P.cellsOf t = 1) : Opens enc P W t 1 (fun b : Bool => [.bool b]) (fun _ => True) :=
  ⟨hs, fun y => ⟨rfl, fun c hc => by simp at hc; subst hc; rfl⟩, fun fuel cs x hx hw => by
    obtain ⟨n, rfl, rfl⟩ := DataW.trod_bool ht hx
    exact ⟨n, trivial, .cons (.bool _) .nil⟩⟩
theorem Opens.str {t : TypeId} (ht : P.underlying t = some .string) (hs : P.cellsOf t = 1) : Opens enc P W t 1 (fun s : List UInt8 => [.str s]) (fun s => s.length ≤ 1000000000000000) :=
  ⟨hs, fun y => ⟨rfl, fun c hc => by simp at hc; subst hc; rfl⟩, fun fuel cs x hx hw => by
    obtain ⟨s, rfl, rfl, h⟩ := DataW.trod_string ht hx
    refine ⟨s.data.toList, ?_, .cons (str_rel s) .nil⟩
    have h1 := hw s.data.toList.length (by simp [DataW.weights])
    have h2 := reachBytes_lt
    have e3 : (2 : Nat) ^ 47 = 140737488355328 := by decide
    omega⟩
theorem mem_weightsAll {e : TypeId} : ∀ {l : List (DataW H)} {d : DataW H}, d ∈ l → ∀ n ∈ d.weights P e, n ∈ DataW.weightsAll P e l
  | c :: l, d, h, n, hn => by
    simp only [DataW.weightsAll, List.mem_append]
    rcases List.mem_cons.1 h with rfl | h
    · exact .inl hn
    · exact .inr (mem_weightsAll h n hn)
theorem opens_rows {e : TypeId} {k : Nat} {α : Type} {mk : α → List AV} {Q : α → Prop} (h : Opens enc P W e k mk Q) (fuel : Nat) (a : Addr) : ∀ len : Nat,
    (∀ i, i < len → ∃ cs x, W.cells? 0 (a.add (i * k)) k = some cs ∧ DataW.trod enc P W 0 (fun _ => true) true fuel e cs = some x ∧ Lig P e x.1) →
    ∃ (ys : List α) (vs : List Value), ys.length = len ∧ (∀ y ∈ ys, Q y) ∧ vs.length = len * k ∧ (∀ j, j < len * k → W.cell? (a.add j) = vs[j]?) ∧ RelL (G0 W) W (ys.flatMap mk) vs
  | 0, _ => ⟨[], [], rfl, (fun y hy => by cases hy), (by simp), (fun j hj => by omega), .nil⟩
  | n + 1, hx => by
    obtain ⟨ys, vs, h1, h2, h3, h4, h5⟩ := opens_rows h fuel a n fun i hi => hx i (by omega)
    obtain ⟨cs, x, c1, c2, c3⟩ := hx n (by omega)
    obtain ⟨_, c5, c6⟩ := World.cells?_some c1
    obtain ⟨y, q, r⟩ := h.go _ _ _ c2 c3
    have e1 : (n + 1) * k = n * k + k := by rw [Nat.add_mul, Nat.one_mul]
    refine ⟨ys ++ [y], vs ++ cs, by simp [h1], fun z hz => ?_, by simp [h3, c5, e1], fun j hj => ?_, by simpa using h5.append r⟩
    · rcases List.mem_append.1 hz with hz | hz
      · exact h2 z hz
      · rw [List.mem_singleton.1 hz]; exact q
    · by_cases hj2 : j < n * k
      · rw [h4 j hj2, List.getElem?_append_left (by omega)]
      · have h6 := c6 (j - n * k) (by omega)
        rw [List.getElem?_append_right (by omega), h3, ← h6]
        congr 1
        unfold Addr.add
        by_cases z1 : n * k = 0
        · simp [z1]
        · by_cases z2 : j - n * k = 0
          · have : j = n * k := by omega
            simp [z1, z2, this]
          · have : j ≠ 0 := by omega
            simp [z1, z2, this]; omega
theorem Opens.slice {t e : TypeId} {k : Nat} {α : Type} {mk : α → List AV} {Q : α → Prop} (nb : Nat) (h : Opens enc P W e k mk Q) (one : α → AV) (ho : ∀ y, (one y).cells = mk y) (hk : 0 < k)
    (ht : P.underlying t = some (.slice e)) (hs : P.cellsOf t = 1) (hb : P.bytesOf e = nb) : Opens enc P W t 1 (fun l : List α => [.slc k (l.map one) .no]) (fun l => l.length * nb ≤ 140737488351232 ∧ ∀ y ∈ l, Q y) :=
  ⟨hs, fun y => ⟨rfl, fun c hc => by simp at hc; subst hc; rfl⟩, fun fuel cs x hx hw => by
    rcases DataW.trod_slice ht hx with ⟨rfl, rfl⟩ | ⟨a, len, cap, elems, rest, n, rfl, rfl, rfl, hba, hl, hc, hel, hrow, _, _⟩
    · exact ⟨[], ⟨by simp, fun y hy => by cases hy⟩, .cons (.slc (vs := []) rfl (Nat.le_refl _) (Nat.zero_le _) (fun y hy => by cases hy) .nil (fun k v hk => by simp at hk) trivial) .nil⟩
    · have hlen : len * nb ≤ 140737488351232 := by
        have h1 := hw ((elems.length + rest.length) * P.bytesOf e) (by simp [DataW.weights, ht])
        have h2 : reachBytes = 140737488351232 := by decide
        have h4 : len * nb ≤ (elems.length + rest.length) * nb := Nat.mul_le_mul_right _ (by omega)
        rw [hb, h2] at h1
        omega
      obtain ⟨ys, vs, h1, h2, h3, h4, h5⟩ := opens_rows h n a len fun i hi => by
        have hr := hrow i hi
        rw [h.size] at hr
        obtain ⟨x, hx⟩ : ∃ x, elems[i]? = some x := ⟨_, List.getElem?_eq_getElem (by omega)⟩
        rw [hx] at hr
        obtain ⟨cs, k1, k2⟩ := Option.bind_eq_some_iff.1 hr
        refine ⟨cs, x, k1, k2, fun m hm => hw m ?_⟩
        have hmem : x.1 ∈ elems.map (·.1) := List.mem_map.2 ⟨x, List.mem_of_getElem? hx, rfl⟩
        simp only [DataW.weights, ht, List.mem_cons, List.mem_append]
        exact .inr (.inl (mem_weightsAll hmem m hm))
      refine ⟨ys, ⟨by rw [h1]; exact hlen, h2⟩, .cons (.slc (vs := vs) (by simp [h1]) hl hc (fun z hz => ?_) ?_ (fun j v hj => ?_) trivial) .nil⟩
      · obtain ⟨y, _, rfl⟩ := List.mem_map.1 hz
        rw [ho]; exact h.lay y
      · have : (ys.map one).flatMap AV.cells = ys.flatMap mk := by
          clear h1 h2 h4 h5
          induction ys with
          | nil => rfl
          | cons y l ih => simp only [List.map_cons, List.flatMap_cons, ih, ho]
        rw [this]; exact h5
      · have hjl : j < len * k := by
          obtain ⟨h, _⟩ := List.getElem?_eq_some_iff.1 hj
          omega
        have hpos : 0 < len * k := by omega
        have hc0 := h4 0 hpos
        have hcj := h4 j hjl
        rw [hj] at hcj
        obtain ⟨v0, hv0⟩ : ∃ v0, vs[0]? = some v0 := ⟨_, List.getElem?_eq_getElem (by omega)⟩
        rw [hv0] at hc0
        have e0 : a.add 0 = a := rfl
        rw [e0] at hc0
        have hblk : a.block < W.heap.size := World.block_lt_of_cell? W _ hc0
        have hspot : a.spot = none := by
          unfold World.cell? at hc0
          cases hs : a.spot with
          | none => rfl
          | some s => rw [hs] at hc0; split at hc0 <;> simp at hc0
        obtain ⟨b, o, sp⟩ := a
        simp only at hspot hblk
        subst hspot
        refine ⟨b, o, rfl, .inl hblk, ?_⟩
        rw [← hcj]
        unfold Addr.add
        by_cases hj0 : j = 0
        · subst hj0; simp
        · simp [hj0]⟩
structure OpensF (enc : TypeId × Value → H) (P : Program) (W : World) (fs : List Field) (off k : Nat) {α : Type} (mk : α → List AV) (Q : α → Prop) : Prop where
  lay : ∀ y, (mk y).length = k ∧ ∀ c ∈ mk y, c.one = true
  go : ∀ (fuel : Nat) (cs : List Value) (xs : List (DataW H × List MemPlace)), (∀ (i : Nat) (f : Field), fs[i]? = some f → DataW.trod enc P W 0 (fun _ => true) true fuel f.type ((cs.drop f.offset).take (P.cellsOf f.type)) = xs[i]?) →
    xs.length = fs.length → (∀ n ∈ DataW.weightsEach P (fs.map (·.type)) (xs.map (·.1)), n ≤ reachBytes) → cs.length = off + k → ∃ y, Q y ∧ RelL (G0 W) W (mk y) (cs.drop off)
theorem OpensF.nil {off : Nat} : OpensF enc P W [] off 0 (fun _ : Unit => []) (fun _ => True) :=
  ⟨fun y => ⟨rfl, fun c hc => by cases hc⟩, fun fuel cs xs h hl hw hc => ⟨(), trivial, by rw [List.drop_eq_nil_of_le (by omega)]; exact .nil⟩⟩
theorem OpensF.cons {f : Field} {fs : List Field} {off k n : Nat} {α β : Type} {mk : α → List AV} {mk' : β → List AV} {Q : α → Prop} {Q' : β → Prop} (ho : f.offset = off) (h : Opens enc P W f.type k mk Q) (t : OpensF enc P W fs (off + k) n mk' Q') :
    OpensF enc P W (f :: fs) off (k + n) (fun y : α × β => mk y.1 ++ mk' y.2) (fun y => Q y.1 ∧ Q' y.2) :=
  ⟨fun y => ⟨by simp [(h.lay y.1).1, (t.lay y.2).1], fun c hc => (List.mem_append.1 hc).elim ((h.lay y.1).2 c) ((t.lay y.2).2 c)⟩, fun fuel cs xs hx hl hw hc => by
    cases xs with
    | nil => simp at hl
    | cons x xs =>
      have h0 := hx 0 f rfl
      rw [ho, h.size] at h0
      obtain ⟨y, q, r⟩ := h.go fuel _ x h0 fun m hm => hw m (by simp only [List.map_cons, DataW.weightsEach, List.mem_append]; exact .inl hm)
      obtain ⟨z, q2, r2⟩ := t.go fuel cs xs (fun i g hg => hx (i + 1) g hg) (by simpa using hl) (fun m hm => hw m (by simp only [List.map_cons, DataW.weightsEach, List.mem_append]; exact .inr hm)) (by omega)
      refine ⟨(y, z), ⟨q, q2⟩, ?_⟩
      have e : cs.drop off = (cs.drop off).take k ++ cs.drop (off + k) := by rw [← List.drop_drop, List.take_append_drop]
      rw [e]; exact r.append r2⟩
theorem Opens.struct {t : TypeId} {fs : List Field} {k : Nat} {α : Type} {mk : α → List AV} {Q : α → Prop} (h : OpensF enc P W fs 0 k mk Q) (ht : P.underlying t = some (.struct fs.toArray)) (hs : P.cellsOf t = k) : Opens enc P W t k mk Q :=
  ⟨hs, h.lay, fun fuel cs x hx hw => by
    obtain ⟨xs, n, rfl, rfl, hl, hxl, hf⟩ := DataW.trod_struct ht hx
    have := h.go n cs xs (fun i f hi => hf i f (by simpa using hi)) (by simpa using hxl) (fun m hm => hw m (by simpa [DataW.weights, ht] using hm)) (by rw [hl, hs]; omega)
    simpa using this⟩
theorem Opens.argS {t : TypeId} {k : Nat} {α : Type} {mk : α → List AV} {Q : α → Prop} (h : Opens enc P W t k mk Q) {cs : Array Value} {d : DataW H} {ps : List MemPlace} (ht : DataW.Trod enc P W 0 (fun _ => true) true t (.agg cs) d ps) (hw : Lig P t d) : ∃ y, Q y ∧ Rel (G0 W) W (.agg (mk y)) (.agg cs) := by
  obtain ⟨fuel, hf⟩ := ht
  obtain ⟨y, q, r⟩ := h.go _ _ _ hf hw
  have : cs = (cs.toList).toArray := by simp
  rw [this]
  exact ⟨y, q, .agg (h.lay y).2 (by simpa [Value.cells] using r)⟩
theorem lig_arg {ts : List TypeId} {ds : List (DataW H)} (h : (DataW.weightsEach P ts ds).all (· ≤ reachBytes) = true) {j : Nat} {t : TypeId} {d : DataW H} (ht : ts[j]? = some t) (hd : ds[j]? = some d) : Lig P t d := fun n hn => by
  simpa using List.all_eq_true.1 h _ (DataW.weights_mem_each ht hd n hn)
end
end Go.Al
end
section
set_option linter.unusedVariables false
set_option linter.unusedSimpArgs false
namespace Go.Al

structure Row where
  key : List UInt8
  val : List UInt8
  deriving DecidableEq
def eBytes (l : List UInt8) : AV := .slc 1 (aBytes l) .no
def eRow (r : Row) : AV := .agg [.str r.key, eBytes r.val]
def eRows (l : List Row) : AV := .slc 2 (l.map eRow) .no
structure Msg where
  seq : Int
  body : List UInt8
  attr : List UInt8
  tries : Int
  until_ : Int
  dead : Bool
  why : List UInt8
  prio : Int
  deriving DecidableEq
def eMsg (m : Msg) : AV := .agg [.int .i64 m.seq, .str m.body, .str m.attr, .int .i64 m.tries, .int .i64 m.until_, .bool m.dead, .str m.why, .int .i64 m.prio]
structure Sub where
  id : Int
  name : List UInt8
  topic : List UInt8
  want : List UInt8
  lease : Int
  most : Int
  floor : Int
  acks : List Int
  queue : List Msg
  note : List UInt8
  deriving DecidableEq
def eInts (l : List Int) : AV := .slc 1 (l.map (.int .i64)) .no
def eMsgs (l : List Msg) : AV := .slc 8 (l.map eMsg) .no
def eSub (x : Sub) : AV := .agg [.int .i64 x.id, .str x.name, .str x.topic, .str x.want, .int .i64 x.lease, .int .i64 x.most, .int .i64 x.floor, eInts x.acks, eMsgs x.queue, .str x.note]
end Go.Al
end
