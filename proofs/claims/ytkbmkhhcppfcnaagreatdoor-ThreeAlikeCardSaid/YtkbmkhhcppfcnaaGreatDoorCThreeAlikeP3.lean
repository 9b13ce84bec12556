/- The law ThreeAlike returns true for every input, and its arguments read as before: the tied card. No conditions. This is part 3 of 8 of its proof; the parts are read in order. No conditions. -/
import Derived.Test.YtkbmkhhcppfcnaaGreatDoorCThreeAlikeP2
import Derived.RangeFuncNested
section
set_option linter.unusedVariables false
set_option linter.unusedSimpArgs false
namespace Go.Al
open Go.RowKit

def St.del (σ : St) (b : Nat) : St := { σ with box := fun j => if j = b then none else σ.box j }
theorem del_le (σ : St) (b : Nat) : St.Le (σ.del b) σ := ⟨fun i cs h => by
  simp only [St.del] at h
  split at h
  · cases h
  · exact h, fun p h => h, fun _ _ h => h⟩
theorem del_none (σ : St) (b : Nat) : (σ.del b).box b = none := by simp [St.del]
theorem del_ne {σ : St} {b c : Nat} (h : c ≠ b) : (σ.del b).box c = σ.box c := by simp [St.del, h]
theorem le_del {τ σ : St} {b : Nat} (h : St.Le τ σ) (hb : τ.box b = none) : St.Le τ (σ.del b) := ⟨fun i cs e => by
  have hne : i ≠ b := by rintro rfl; rw [hb] at e; cases e
  rw [del_ne hne]; exact h.box i cs e, fun p e => h.tok p e, h.obj⟩
theorem le_none {τ σ : St} {b : Nat} (h : St.Le τ σ) (hb : σ.box b = none) : τ.box b = none := by
  cases e : τ.box b with
  | none => rfl
  | some cs => rw [h.box b cs e] at hb; cases hb
theorem le_new {τ σ : St} {b : Nat} {cs : List AV} (h : St.Le τ σ) (hb : σ.box b = none) : St.Le τ (σ.setBox b cs) := le_setBox h (le_none h hb)
theorem le_new2 {τ σ : St} {b : Nat} {cs ds : List AV} (h : St.Le τ σ) (hb : σ.box b = none) : St.Le τ ((σ.setBox b cs).setBox b ds) := by rw [setBox_setBox]; exact le_new h hb
theorem Inv.reBox {w0 : Base} {G : Gh} {σ : St} {w : World} {b : Nat} {cs ds : List AV} (hI : Inv w0 G σ w) (hb : σ.box b = some cs) (hw : ∀ vs, RelL G w cs vs → RelL G w ds vs) : Inv w0 G (σ.setBox b ds) w := by
  have hs : ∀ i, ((σ.setBox b ds).box i).isSome = true → (σ.box i).isSome = true := fun i hi => by
    by_cases e : i = b
    · subst e; rw [hb]; rfl
    · simpa [St.setBox, e] using hi
  refine ⟨hI.base, hI.old, ?_, fun i j m hi hj => hI.binj i j m (hs i hi) (hs j hj), hI.tok, hI.tinj, fun i t m e l hi ht => hI.apart i t m e l (hs i hi) ht, hI.immlt, hI.boxlt, hI.toklt, hI.fresh, hI.obj⟩
  intro i es hi
  by_cases e : i = b
  · subst e
    simp only [St.setBox, if_true, Option.some.injEq] at hi
    subst hi
    obtain ⟨m, c, T, h1, h2, h3, h4, h5⟩ := (hI.box i cs hb).ex
    exact ⟨m, c, T, h1, h2, h3, hw _ h4, h5⟩
  · exact hI.box i es (by simpa [St.setBox, e] using hi)
theorem relL_mid {G : Gh} {w : World} {x y : AV} (h : ∀ v, Rel G w x v → Rel G w y v) : ∀ (pre : List AV) {post : List AV} {vs : List Value}, RelL G w (pre ++ x :: post) vs → RelL G w (pre ++ y :: post) vs
  | [], _, _, .cons hx ht => .cons (h _ hx) ht
  | a :: pre, _, _, .cons ha ht => .cons ha (relL_mid h pre ht)
theorem Inv.seal {w0 : Base} {G : Gh} {σ : St} {w : World} {bx b sz cap : Nat} {pre post xs junk : List AV} (hI : Inv w0 G σ w) (hx : σ.box bx = some (pre ++ .msl b 0 xs.length cap :: post)) (hb : σ.box b = some (xs.flatMap AV.cells ++ junk)) (hne : bx ≠ b) (hsz : ∀ x ∈ xs, x.cells.length = sz ∧ ∀ c ∈ x.cells, c.one = true) :
    ∃ G', Inv w0 G' ((σ.del b).setBox bx (pre ++ .slc sz xs .no :: post)) w ∧ Ext G w G' w := by
  obtain ⟨m0, c0, T0, g1, g2, g3, g4, g5⟩ := (hI.box bx _ hx).ex
  obtain ⟨us, ts, e1, r1, r2⟩ := RelL.inv_append g4
  cases r2 with
  | cons hv r2 =>
    rename_i v0 ts0
    cases hv with
    | msl hgb hcap hm =>
      rename_i m
      obtain ⟨hI', e⟩ := hI.freeze hb (del_le σ b) (del_none σ b) hgb
      refine ⟨_, hI'.reBox (b := bx) (cs := pre ++ .msl b 0 xs.length cap :: post) (by rw [del_ne hne]; exact hx) fun vs hvs => ?_, e⟩
      refine relL_mid (fun v hv => ?_) pre hvs
      cases hv with
      | msl hgb' hcap' hm' =>
        rename_i m'
        obtain rfl : m = m' := by
          have h1 : G.box b = some m' := hgb'
          rw [hgb] at h1; exact Option.some.inj h1
        obtain ⟨m2, c', T, h1', h2, h3, h4, h5⟩ := (hI.box b _ hb).ex
        obtain rfl : m2 = m := by rw [h1'] at hgb; exact Option.some.inj hgb
        have hlen : (xs.flatMap AV.cells).length = xs.length * sz := by
          have : ∀ l : List AV, (∀ x ∈ l, x.cells.length = sz) → (l.flatMap AV.cells).length = l.length * sz := by
            intro l
            induction l with
            | nil => intro _; simp
            | cons y l ih => intro h; rw [List.flatMap_cons, List.length_append, ih fun z hz => h z (by simp [hz]), h y (by simp), List.length_cons, Nat.succ_mul]; omega
          exact this xs fun x hx => (hsz x hx).1
        have h4' := (h4.ext e).take (xs.length * sz)
        rw [List.take_append_of_le_length (by omega), List.take_of_length_le (by omega)] at h4'
        refine .slc (vs := c'.toList.take (xs.length * sz)) rfl hcap' hm' hsz h4' ?_ trivial
        intro j u hj
        refine ⟨m2, 0, rfl, .inr (.inr rfl), ?_⟩
        rw [List.getElem?_take] at hj
        split at hj
        · rw [cell_block h3, Nat.zero_add]; simpa using hj
        · cases hj
theorem CallW.seal {P : Program} {w0 : Base} {f : FuncId} {args : List AV} {σ : St} {K : AV → St → Prop} {bx b sz cap : Nat} {pre post xs junk : List AV} (hx : σ.box bx = some (pre ++ .msl b 0 xs.length cap :: post)) (hb : σ.box b = some (xs.flatMap AV.cells ++ junk)) (hne : bx ≠ b) (hsz : ∀ x ∈ xs, x.cells.length = sz ∧ ∀ c ∈ x.cells, c.one = true)
    (h : CallW P w0 f args ((σ.del b).setBox bx (pre ++ .slc sz xs .no :: post)) K) : CallW P w0 f args σ K := ⟨fun G w vs hI hr => by
  obtain ⟨G', hI', e⟩ := hI.seal hx hb hne hsz
  refine (h.go G' w vs hI' (RelL.ext e hr)).mono ?_
  rintro ex w' ⟨v, r, σ', G2, h1, h2, h3, h4, h5⟩
  exact ⟨v, r, σ', G2, h1, h2, h3, e.trans h4, h5⟩⟩
theorem RelL_nils {G : Gh} {w : World} {sz : Nat} : ∀ v, Rel G w .nils v → Rel G w (.slc sz [] .no) v := fun v hv => (Weak.nils sz .no (.inl rfl)).go _ _ _ hv
theorem CallW.sealNil {P : Program} {w0 : Base} {f : FuncId} {args : List AV} {σ : St} {K : AV → St → Prop} {bx sz : Nat} {pre post : List AV} (hx : σ.box bx = some (pre ++ .nils :: post)) (h : CallW P w0 f args (σ.setBox bx (pre ++ .slc sz [] .no :: post)) K) : CallW P w0 f args σ K :=
  ⟨fun G w vs hI hr => h.go G w vs (hI.reBox hx fun us hu => relL_mid RelL_nils pre hu) hr⟩
theorem SLoop.by2 {P : Program} {w0 : Base} {T : TT} {n : Nat} {c : Code} {k : SL → St → BL → Prop} {X : Nat → SL → St → BL → Prop} {R : SL → St → BL → Prop} {L : SL} {σ : St} {B : BL} {α : Type} (hm : P.follows .mixedOrders = true) (μ : α → Nat) (inv : α → SL) (bx : α → BL) (p : α → St → Prop) (a : α)
    (h0 : At inv bx p a L σ B) (round : ∀ a σ, p a σ → Know σ (bx a) → ∃ B, Know σ B ∧ xOpen (inv a) B fun L B => Xc P w0 T n c (fun L1 σ1 B1 => ∃ a', μ a' < μ a ∧ At inv bx p a' L1 σ1 B1) X R L σ B) : SLoop P w0 T n c k X R L σ B := ⟨fun hT ho hB => by
  refine W.loop (fun m E s => ∃ a L B, m = μ a ∧ E = env L ∧ Know s B ∧ At inv bx p a L s B) (μ a) ⟨a, L, B, rfl, rfl, hB, h0⟩ ?_
  rintro m E s ⟨a, L, B, rfl, rfl, hB, h⟩
  refine W.has (Has.by (xWeak_has h.weak)) ?_
  obtain ⟨B2, hB2, hr⟩ := round a s h.p (hB.sub h.box)
  refine (Xc_ok hT hm c _ X R (inv a) s B2 ho hB2 (by rwa [xOpen_eq] at hr)).mono fun e E' s' q => ?_
  cases e with
  | normal =>
    obtain ⟨L1, B1, rfl, hB1, a', hlt, h'⟩ := q
    exact ⟨μ a', hlt, a', L1, B1, rfl, rfl, hB1, h'⟩
  | exit j => exact q
  | ret => exact q
  | goto l => exact q
  | panic c => exact q
  | outgrown => exact q⟩
theorem Know.add {σ : St} {B : BL} (h : Know σ B) {b : Nat} {cs : List AV} (hb : σ.box b = some cs) (hn : b ∉ B.map (·.1)) : Know σ ((b, cs) :: B) := ⟨fun p hp => by
  rcases List.mem_cons.1 hp with rfl | hp
  · exact hb
  · exact h.has p hp, by rw [List.map_cons, List.nodup_cons]; exact ⟨hn, h.nd⟩⟩
end Go.Al
end
section
set_option linter.unusedVariables false
set_option linter.unusedSimpArgs false
namespace Go.Al
open Go.RowKit
theorem set_mid {pre cs post : List AV} {k : Nat} (hk : k < cs.length) (v : AV) : (pre ++ cs ++ post).set (pre.length + k) v = pre ++ cs.set k v ++ post := by
  rw [List.append_assoc, List.set_append_right _ _ (by omega), List.set_append_left _ _ (by omega), List.append_assoc]
  congr 3; omega
theorem get_mid {pre cs post : List AV} {k : Nat} (hk : k < cs.length) : (pre ++ cs ++ post)[pre.length + k]? = cs[k]? := by
  rw [List.append_assoc, List.getElem?_append_right (by omega), List.getElem?_append_left (by omega)]
  congr 1; omega
theorem SStore.mid {σ : St} {b off : Nat} {v : AV} {B : BL} {K : St → BL → Prop} (i : Nat) {pre cs post : List AV} (k : Nat) (h : nth B i = some (b, pre ++ cs ++ post)) (ho : off = pre.length + k) (hk : k < cs.length) (q : fL (fun x k => k x) (cs.set k v) fun cs' => xSetN B i (b, pre ++ cs' ++ post) fun B' => K (σ.setBox b (pre ++ cs' ++ post)) B') : SStore σ b off [v] B K := by
  subst ho
  rw [fL_eq (fun _ _ => rfl)] at q
  exact .as i h (by simp; omega) (by rw [setL, setL, set_mid hk]) q
theorem SLoad.mid {P : Program} {T : TT} {t : TypeId} {b off : Nat} {B : BL} {stop : Prop} {K : AV → Prop} [hu : TyA P t false] [hs : TyS P t 1] (i : Nat) {pre cs post : List AV} (k : Nat) {r : AV} (h : nth B i = some (b, pre ++ cs ++ post)) (ho : off = pre.length + k) (hr : nth cs k = some r) (q : fAV 4 r K) : SLoad P T t b off B stop K := by
  subst ho
  rw [nth_eq] at hr
  obtain ⟨hk, _⟩ := List.getElem?_eq_some_iff.1 hr
  exact .as i r h (aLoad1 (by rw [get_mid hk]; exact hr)) q
theorem SLoad.midA {P : Program} {T : TT} {t n : TypeId} {b off : Nat} {B : BL} {stop : Prop} {K : AV → Prop} [hu : TyA P t true] [hs : TyS P t n] (i : Nat) {pre cs post : List AV} (h : nth B i = some (b, pre ++ cs ++ post)) (ho : off = pre.length) (hl : cs.length = n) (h1 : cs.all AV.one = true) (q : fAV 4 (.agg cs) K) : SLoad P T t b off B stop K := by
  subst ho
  exact .as i _ h (aLoadA (by rw [List.append_assoc, List.drop_left, List.take_append_of_le_length (by omega), List.take_of_length_le (by omega)]) hl h1) q
end Go.Al
end
section
set_option linter.unusedVariables false
set_option linter.unusedSimpArgs false
namespace Go.Al
open Go.RowKit
theorem flat_len {sz : Nat} : ∀ {l : List AV}, (∀ x ∈ l, x.cells.length = sz) → (l.flatMap AV.cells).length = l.length * sz
  | [], _ => by simp
  | y :: l, h => by
    rw [List.flatMap_cons, List.length_append, flat_len (fun z hz => h z (by simp [hz])), h y (by simp), List.length_cons, Nat.succ_mul]; omega
theorem setL_app : ∀ (us A J : List AV), us.length ≤ J.length → setL (A ++ J) A.length us = A ++ us ++ J.drop us.length
  | [], A, J, _ => by simp [setL]
  | u :: us, A, [], h => by simp at h
  | u :: us, A, j :: J, h => by
    rw [setL]
    have e : (A ++ j :: J).set A.length u = (A ++ [u]) ++ J := by simp
    have e2 : A.length + 1 = (A ++ [u]).length := by simp
    rw [e, e2, setL_app us (A ++ [u]) J (by simpa using h)]; simp
inductive RowV (σ : St) (sz : Nat) (xs : List AV) : AV → Option Nat → Prop
  | nil (h : xs = []) : RowV σ sz xs .nils none
  | own (b cap : Nat) (junk : List AV) (hb : σ.box b = some (xs.flatMap AV.cells ++ junk)) (hc : xs.length ≤ cap) (hl : cap * sz ≤ (xs.flatMap AV.cells ++ junk).length) : RowV σ sz xs (.msl b 0 xs.length cap) (some b)
theorem RowV.keep {σ s : St} {sz : Nat} {xs : List AV} {v : AV} {r : Option Nat} (h : RowV σ sz xs v r) (k : ∀ b cs, r = some b → σ.box b = some cs → s.box b = some cs) : RowV s sz xs v r := by
  cases h with
  | nil h => exact .nil h
  | own b cap junk hb hc hl => exact .own b cap junk (k b _ rfl hb) hc hl
theorem RowV.set {σ : St} {sz : Nat} {xs : List AV} {v : AV} {r : Option Nat} (h : RowV σ sz xs v r) {c : Nat} {ds : List AV} (hne : r ≠ some c) : RowV (σ.setBox c ds) sz xs v r :=
  h.keep fun b cs e hb => by rw [setBox_ne (fun e2 => hne (by rw [e, e2]))]; exact hb
theorem RowV.has {σ : St} {sz : Nat} {xs : List AV} {v : AV} {b : Nat} (h : RowV σ sz xs v (some b)) : σ.box b ≠ none := by
  cases h with
  | own b cap junk hb hc hl => rw [hb]; simp
section
variable {P : Program} {w0 : Base} {a b sz bytes : TypeId} {u v : AV} {σ : St} {B : BL} {K : AV → St → BL → Prop}
theorem SApp.row {xs : List AV} {y : AV} {r : Option Nat} {n' : Nat} (hn' : xs.length + 1 = n') (hu : RowV σ sz xs u r) (hy : aSrc sz v = some [y]) [hi : AppI P a b sz bytes] (hsz : ∀ x ∈ xs, x.cells.length = sz) (hys : y.cells.length = sz) (hf : (xs.length + 1) * bytes ≤ 140737488355328) (hB : ∀ p ∈ B, r ≠ some p.1)
    (k : ∀ b' cap' σ', RowV σ' sz (xs ++ [y]) (.msl b' 0 n' cap') (some b') → (r = some b' ∨ σ.box b' = none) → (∀ i cs, r ≠ some i → σ.box i = some cs → σ'.box i = some cs) → (σ'.tok = σ.tok ∧ σ'.obj = σ.obj) → K (.msl b' 0 n' cap') σ' B) : SApp P w0 a b u v σ B K := ⟨fun hBk o E s x ho hs hx => by
  subst hn'
  have e1 : (xs ++ [y]).flatMap AV.cells = xs.flatMap AV.cells ++ y.cells := by simp
  have e0 : ([y] : List AV).flatMap AV.cells = y.cells := by simp
  have el : (xs ++ [y]).length = xs.length + 1 := by simp
  have hk0 : ∀ (σ' : St), (∀ i cs, r ≠ some i → σ.box i = some cs → σ'.box i = some cs) → Know σ' B := fun σ' h => ⟨fun p hp => h _ _ (hB p hp) (hBk.has p hp), hBk.nd⟩
  cases hu with
  | nil h =>
    subst h
    refine (SApp.n (P := P) (w0 := w0) (a := a) (b := b) (u := .nils) (v := v) (σ := σ) (B := B) (K := fun r s _ => ∃ B', Know s B' ∧ K r s B') rfl hy (by simp) (by simpa using hf) fun b' cap h1 h2 => ?_).go hBk o E s x ho hs hx |>.mono fun r s ⟨_, _, h⟩ => h
    have h2' : 1 ≤ cap := by simpa using h2
    refine ⟨B, hk0 _ fun i cs _ hi => ?_, k b' cap _ (.own b' cap (List.replicate ((cap - 1) * sz) .und) ?_ (by simpa using h2') ?_) (.inr h1) (fun i cs _ hi => ?_) ⟨rfl, rfl⟩⟩
    · rw [setBox_ne (by rintro rfl; rw [h1] at hi; cases hi)]; exact hi
    · simp only [List.nil_append, List.length_singleton]; exact setBox_same
    · rw [e1, List.length_append, List.length_append, List.length_replicate, hys]
      obtain ⟨c, rfl⟩ : ∃ c, cap = c + 1 := ⟨cap - 1, by omega⟩
      simp [Nat.succ_mul]; omega
    · rw [setBox_ne (by rintro rfl; rw [h1] at hi; cases hi)]; exact hi
  | own b0 cap junk hb hc hl =>
    have hfl := flat_len hsz
    have hjl : (xs.flatMap AV.cells ++ junk).length = xs.length * sz + junk.length := by rw [List.length_append, hfl]
    obtain ⟨e, inf, z, T, rfl, rfl, hpos⟩ := hi.h
    subst hx
    have hfit : AppFits inf (xs.length + [y].length) := ⟨by simpa using hf, by
      have : xs.length + 1 ≤ (xs.length + 1) * inf.bytes := Nat.le_mul_of_pos_right _ hpos
      simp only [maxLen, List.length_singleton]; omega⟩
    refine w_appendM T s x ho hs hb hl hc hy hfit (fun h => ?_) fun b' cap' h1 h2 => ?_
    · have h' : xs.length + 1 ≤ cap := by simpa using h
      have hmul : (xs.length + 1) * inf.size ≤ cap * inf.size := Nat.mul_le_mul_right _ h'
      rw [Nat.succ_mul] at hmul
      have hs' : setL (xs.flatMap AV.cells ++ junk) (xs.length * inf.size) ([y].flatMap AV.cells) = (xs ++ [y]).flatMap AV.cells ++ junk.drop y.cells.length := by
        rw [← hfl, e0, setL_app _ _ _ (by omega), e1]
      rw [hs']
      refine ⟨B, hk0 _ fun i cs hi h0 => ?_, k b0 cap _ ?_ (.inl rfl) (fun i cs hi h0 => ?_) ⟨rfl, rfl⟩⟩
      · rw [setBox_ne (fun e => hi (by rw [e]))]; exact h0
      · have := RowV.own (σ := σ.setBox b0 ((xs ++ [y]).flatMap AV.cells ++ junk.drop y.cells.length)) (sz := inf.size) (xs := xs ++ [y]) b0 cap (junk.drop y.cells.length) setBox_same (by rw [el]; exact h') (by
          rw [e1, List.length_append, List.length_append, List.length_drop, hfl]; omega)
        rwa [el] at this
      · rw [setBox_ne (fun e => hi (by rw [e]))]; exact h0
    · have h2' : xs.length + 1 ≤ cap' := by simpa using h2
      have ht : (xs.flatMap AV.cells ++ junk).take (xs.length * inf.size) = xs.flatMap AV.cells := by rw [← hfl, List.take_left']; rfl
      rw [ht, e0, ← e1]
      refine ⟨B, hk0 _ fun i cs hi h0 => ?_, k b' cap' _ ?_ (.inr h1) (fun i cs hi h0 => ?_) ⟨rfl, rfl⟩⟩
      · rw [setBox_ne (by rintro rfl; rw [h1] at h0; cases h0)]; exact h0
      · have := RowV.own (σ := σ.setBox b' ((xs ++ [y]).flatMap AV.cells ++ List.replicate ((cap' - (xs.length + [y].length)) * inf.size) .und)) (sz := inf.size) (xs := xs ++ [y]) b' cap' _ setBox_same (by rw [el]; exact h2') (by
          rw [e1, List.length_append, List.length_append, List.length_replicate, hfl, hys, List.length_singleton]
          obtain ⟨c, rfl⟩ : ∃ c, cap' = xs.length + 1 + c := ⟨cap' - (xs.length + 1), by omega⟩
          rw [Nat.add_sub_cancel_left, Nat.add_mul, Nat.succ_mul]; omega)
        rwa [el] at this
      · rw [setBox_ne (by rintro rfl; rw [h1] at h0; cases h0)]; exact h0⟩
end
end Go.Al
end
section
set_option linter.unusedVariables false
set_option linter.unusedSimpArgs false
namespace Go.Al
open Go.RowKit
section
variable {P : Program} {w0 : Base} {ops : Array Oper} {kd : Kd}
theorem runs_cons {Q Q' : AEnv → St → Prop} (j : Nat) {l l' : List Nat} (hl : ∀ E σ, Runs P w0 ops kd Q l E σ → Runs P w0 ops kd Q' l' E σ) {E : AEnv} {σ : St} (h : Runs P w0 ops kd Q (j :: l) E σ) : Runs P w0 ops kd Q' (j :: l') E σ := by
  unfold Runs at h ⊢
  split
  · rename_i hn
    simp only [hn] at h
    exact hl _ _ h
  · rename_i o ho
    simp only [ho] at h
    split
    · rename_i hw
      rw [hw] at h
      exact h.mono fun r s h => hl _ _ h
    · rename_i hw
      rw [hw] at h
      exact hl _ _ h
    · rename_i hw
      rw [hw] at h
      exact h
theorem runs_app {Q Q' : AEnv → St → Prop} {post : List Nat} (hq : ∀ E σ, Q' E σ → Runs P w0 ops kd Q post E σ) : ∀ (pre : List Nat) {E : AEnv} {σ : St}, Runs P w0 ops kd Q' pre E σ → Runs P w0 ops kd Q (pre ++ post) E σ
  | [], E, σ, h => hq E σ h
  | j :: pre, E, σ, h => runs_cons j (fun _ _ h => runs_app hq pre h) h
theorem runs_front {Q : AEnv → St → Prop} {i : Nat} {post : List Nat} : ∀ (pre : List Nat) {E : AEnv} {σ : St}, (∀ j ∈ pre, swapB ops kd.k j i = true) → Runs P w0 ops kd Q (pre ++ i :: post) E σ → Runs P w0 ops kd Q (i :: (pre ++ post)) E σ
  | [], E, σ, _, h => h
  | j :: pre, E, σ, hs, h => runs_swap (hs j (by simp)) (runs_cons j (fun _ _ h => runs_front pre (fun k hk => hs k (by simp [hk])) h) h)
theorem Left.noWait {kind : Nat → Nat} {listed : Array Bool} {r : List Nat} (h : Left ops kind listed r) {i j : Nat} (hi : i ∈ Region.ready .any ops listed) (hj : j ∈ r) : ¬ Waits ops i j := fun hw => by
  obtain ⟨hlt, hun, hpre⟩ := ready_mem.1 hi
  have h1 := h.waits hw (.inr hpre)
  have hjlt := h.lt j hj
  have h2 := (h.unl j hjlt).2 hj
  rw [getD_ft (by rw [h.size]; exact hjlt), h1] at h2
  cases h2
theorem Left.pws {kind kind' : Nat → Nat} {listed : Array Bool} {r : List Nat} (h : Left ops kind listed r) (hp : r.Pairwise fun j i => Waits ops i j ∨ swapB ops kind' j i = true) : Left ops kind' listed r := ⟨h.size, h.lt, h.unl, h.nodup, hp, h.lin, h.closed⟩
theorem any_sound2 {n : Nat} (hd : dstsOk n ops = true) {Q : AEnv → St → Prop} {k1 k2 : Nat → Nat} {p q : Nat} {post : List Nat} (hw : ∀ i ∈ post, Waits ops i p) :
    ∀ (fuel : Nat) (listed : Array Bool) (pre : List Nat) (E : AEnv) (σ : St), Left ops k1 listed (pre ++ p :: q :: post) → Left ops k2 listed (pre ++ q :: p :: post) → (pre ++ p :: post).Pairwise (fun j i => Waits ops i j ∨ swapB ops kd.k j i = true) → (pre ++ q :: post).Pairwise (fun j i => Waits ops i j ∨ swapB ops kd.k j i = true) → pre.length = fuel →
      Runs P w0 ops kd (fun E σ => Runs P w0 ops kd Q (p :: q :: post) E σ ∧ Runs P w0 ops kd Q (q :: p :: post) E σ) pre E σ → ∀ {G : Gh} {w : World} {a : Act}, Inv w0 G σ w → RelE G w E a → a.tmps.size = n →
      ∀ {Qx : Exit → Act → World → Prop}, (∀ E' σ' G' w' a', Q E' σ' → Inv w0 G' σ' w' → RelE G' w' E' a' → a'.tmps.size = n → a'.defers = a.defers → Ext G w G' w' → Qx .normal a' w') → ∀ ro, wpAnyIn (wideAt ro) 0 P .any ops Qx (fuel + 2 + post.length) listed a w := by
  intro fuel
  induction fuel with
  | zero =>
    intro listed pre E σ h1 h2 p1 p2 hlen hr G w a hI hE hn Qx hk ro
    have : pre = [] := List.eq_nil_of_length_eq_zero hlen
    subst this
    rw [show 0 + 2 + post.length = (1 + post.length) + 1 by omega]
    refine ⟨fun hnil => ?_, fun i hi => ?_⟩
    · exfalso
      have hlt := h1.lt p (by simp)
      have hun := (h1.unl p hlt).2 (by simp)
      have : p ∈ Region.ready .any ops listed := ready_mem.2 ⟨hlt, hun, fun j hdj => by
        rcases h1.lin [] p (q :: post) rfl j hdj with h | h
        · exact h
        · simp at h⟩
      rw [hnil] at this
      simp at this
    · obtain ⟨hlt, hun, _⟩ := ready_mem.1 hi
      have hmem := (h1.unl i hlt).1 hun
      simp only [List.nil_append, List.mem_cons] at hmem
      rcases hmem with rfl | rfl | hmem
      · refine step_run hd hr.1 hI hE hn (fun E' σ' G' w' a' hr2 hI' hE' hn' hdf e => ?_) ro
        refine any_sound hd _ _ (q :: post) E' σ' ((Left.step (pre := []) h1 hi).pws p2) (by simp; omega) hr2 hI' hE' hn' (fun E2 σ2 G2 w2 a2 qq hI2 hE2 hn2 hd2 e2 => ?_) ro
        exact hk E2 σ2 G2 w2 a2 qq hI2 hE2 hn2 (hd2.trans hdf) (e.trans e2)
      · refine step_run hd hr.2 hI hE hn (fun E' σ' G' w' a' hr2 hI' hE' hn' hdf e => ?_) ro
        refine any_sound hd _ _ (p :: post) E' σ' ((Left.step (pre := []) h2 hi).pws p1) (by simp; omega) hr2 hI' hE' hn' (fun E2 σ2 G2 w2 a2 qq hI2 hE2 hn2 hd2 e2 => ?_) ro
        exact hk E2 σ2 G2 w2 a2 qq hI2 hE2 hn2 (hd2.trans hdf) (e.trans e2)
      · exact absurd (hw i hmem) (h1.noWait hi (by simp))
  | succ fuel ih =>
    intro listed pre E σ h1 h2 p1 p2 hlen hr G w a hI hE hn Qx hk ro
    rw [show fuel + 1 + 2 + post.length = (fuel + 2 + post.length) + 1 by omega]
    refine ⟨fun hnil => ?_, fun i hi => ?_⟩
    · exfalso
      cases pre with
      | nil => simp at hlen
      | cons i pre =>
        have hlt := h1.lt i (by simp)
        have hun := (h1.unl i hlt).2 (by simp)
        have : i ∈ Region.ready .any ops listed := ready_mem.2 ⟨hlt, hun, fun j hdj => by
          rcases h1.lin [] i _ rfl j hdj with h | h
          · exact h
          · simp at h⟩
        rw [hnil] at this
        simp at this
    · obtain ⟨hlt, hun, _⟩ := ready_mem.1 hi
      have hmem := (h1.unl i hlt).1 hun
      simp only [List.mem_append, List.mem_cons] at hmem
      rcases hmem with hmem | rfl | rfl | hmem
      · obtain ⟨as, bs, rfl⟩ := List.append_of_mem hmem
        have e1 : ∀ r, (as ++ i :: bs) ++ r = as ++ i :: (bs ++ r) := fun r => by simp
        have e2 : ∀ r : List Nat, as ++ (bs ++ r) = (as ++ bs) ++ r := fun r => by simp
        rw [e1] at h1 h2 p1 p2
        have hsw : ∀ j ∈ as, swapB ops kd.k j i = true := fun j hj => by
          rcases (List.pairwise_append.1 p1).2.2 j hj i (by simp) with h | h
          · exact absurd h (h1.noWait hi (by simp [hj]))
          · exact h
        have hr' := runs_front as hsw hr
        have s1 := h1.step hi
        have s2 := h2.step hi
        rw [e2] at s1 s2
        have sub : ∀ r : List Nat, ((as ++ bs) ++ r).Sublist (as ++ i :: (bs ++ r)) := fun r => by rw [← e2]; simp
        refine step_run hd hr' hI hE hn (fun E' σ' G' w' a' hr2 hI' hE' hn' hdf e => ?_) ro
        refine ih _ (as ++ bs) E' σ' s1 s2 (p1.sublist (sub _)) (p2.sublist (sub _)) (by simp at hlen ⊢; omega) hr2 hI' hE' hn' (fun E2 σ2 G2 w2 a2 qq hI2 hE2 hn2 hd2 e2 => ?_) ro
        exact hk E2 σ2 G2 w2 a2 qq hI2 hE2 hn2 (hd2.trans hdf) (e.trans e2)
      · have hsw : ∀ j ∈ pre, swapB ops kd.k j i = true := fun j hj => by
          rcases (List.pairwise_append.1 p1).2.2 j hj i (by simp) with h | h
          · exact absurd h (h1.noWait hi (by simp [hj]))
          · exact h
        have hr' := runs_front (post := q :: post) pre hsw (runs_app (fun _ _ h => h.1) pre hr)
        refine step_run hd hr' hI hE hn (fun E' σ' G' w' a' hr2 hI' hE' hn' hdf e => ?_) ro
        refine any_sound hd _ _ (pre ++ q :: post) E' σ' ((h1.step hi).pws p2) (by simp at hlen ⊢; omega) hr2 hI' hE' hn' (fun E2 σ2 G2 w2 a2 qq hI2 hE2 hn2 hd2 e2 => ?_) ro
        exact hk E2 σ2 G2 w2 a2 qq hI2 hE2 hn2 (hd2.trans hdf) (e.trans e2)
      · have hsw : ∀ j ∈ pre, swapB ops kd.k j i = true := fun j hj => by
          rcases (List.pairwise_append.1 p2).2.2 j hj i (by simp) with h | h
          · exact absurd h (h1.noWait hi (by simp [hj]))
          · exact h
        have hr' := runs_front (post := p :: post) pre hsw (runs_app (fun _ _ h => h.2) pre hr)
        refine step_run hd hr' hI hE hn (fun E' σ' G' w' a' hr2 hI' hE' hn' hdf e => ?_) ro
        refine any_sound hd _ _ (pre ++ p :: post) E' σ' ((h2.step hi).pws p1) (by simp at hlen ⊢; omega) hr2 hI' hE' hn' (fun E2 σ2 G2 w2 a2 qq hI2 hE2 hn2 hd2 e2 => ?_) ro
        exact hk E2 σ2 G2 w2 a2 qq hI2 hE2 hn2 (hd2.trans hdf) (e.trans e2)
      · exact absurd (hw i hmem) (h1.noWait hi (by simp))
def orderOk2 (ops : Array Oper) (kind : Nat → Nat) (pre : List Nat) (p q : Nat) (post : List Nat) : Bool :=
  orderOk ops (fun _ => 0) (pre ++ p :: q :: post) && orderOk ops (fun _ => 0) (pre ++ q :: p :: post) && pairsOk ops kind (masks ops.toList []) (pre ++ p :: post) && pairsOk ops kind (masks ops.toList []) (pre ++ q :: post) && post.all fun i => ((masks ops.toList []).getD i 0).testBit p
theorem W.regionD2 {n id : Nat} {Q : Exit → AEnv → St → Prop} {E : AEnv} {σ : St} (hm : P.follows .mixedOrders = true) (kind : Kd) (pre : List Nat) (p q : Nat) (post : List Nat) (ho : orderOk2 ops kind.k pre p q post = true) (hd : dstsOk n ops = true)
    (h : Runs P w0 ops kind (fun E σ => Runs P w0 ops kind (fun E σ => Q .normal E σ) (p :: q :: post) E σ ∧ Runs P w0 ops kind (fun E σ => Q .normal E σ) (q :: p :: post) E σ) pre E σ) : W P w0 n (.region id ops true) Q E σ := ⟨fun G w a hI hE hn ro hdf => by
  simp only [orderOk2, Bool.and_eq_true, List.all_eq_true] at ho
  obtain ⟨⟨⟨⟨o1, o2⟩, o3⟩, o4⟩, o5⟩ := ho
  obtain ⟨l1, hlen⟩ := order_left o1
  obtain ⟨l2, _⟩ := order_left o2
  have hw := masks_spec (ops := ops) ops.toList [] [] (by simp) rfl (fun i j h => by simp at h)
  have hA : Alike0 w { w with drawn := w.drawn + 1 } := ⟨rfl, rfl, rfl, rfl⟩
  have hz : ops.size = pre.length + 2 + post.length := by rw [← hlen]; simp; omega
  refine wpIn_region_any hm ?_
  rw [hz]
  rw [hz] at l1 l2
  exact any_sound2 hd (fun i hi => hw _ _ (o5 i hi)) _ _ pre E σ l1 l2 ((pairs_pw o3).imp fun h => h.imp (hw _ _) fun h => h) ((pairs_pw o4).imp fun h => h.imp (hw _ _) fun h => h) rfl h (hA.inv hI) (hE.ext hA.ext) hn (fun E' σ' G' w' a' q r1 r2 r3 r4 r5 => ⟨E', σ', G', q, r1, r2, r3, hdf.to r4 (hA.ext.trans r5), hA.ext.trans r5⟩) ro⟩
end
theorem runsL_mono {P : Program} {w0 : Base} {ds : List (Option Tmp)} {kind : Kd} {Q Q' : AEnv → St → Prop} (hq : ∀ E σ, Q E σ → Q' E σ) : ∀ {l : List Oper} {i : Nat} {E : AEnv} {σ : St}, RunsL P w0 ds kind Q i l E σ → RunsL P w0 ds kind Q' i l E σ
  | [], i, E, σ, h => hq E σ h
  | o :: l, i, E, σ, h => by
    unfold RunsL at h ⊢
    split
    · rename_i hw
      rw [hw] at h
      exact h.mono fun r s h => runsL_mono hq h
    · rename_i hw
      rw [hw] at h
      exact runsL_mono hq h
    · rename_i hw
      rw [hw] at h
      exact h
section
variable {P : Program} {w0 : Base} {T : TT} {n id : Nat} {l : List Oper} {k : SL → St → BL → Prop} {X : Nat → SL → St → BL → Prop} {R : SL → St → BL → Prop} {L : SL} {σ : St} {B : BL}
theorem SReg.two (pre : List Nat) (p q : Nat) (post kd : List Nat) (ho : orderOk2 l.toArray (gk kd) pre p q post = true)
    (h : xOrd l pre fun l0 => xOrd l (p :: q :: post) fun l1 => xOrd l (q :: p :: post) fun l2 =>
      Xr P w0 T l ⟨fun i => gk kd (gk pre i), 0, none⟩ (fun L σ B => Xr P w0 T l ⟨fun i => gk kd (gk (p :: q :: post) i), 0, none⟩ k 0 l1 L σ B ∧ Xr P w0 T l ⟨fun i => gk kd (gk (q :: p :: post) i), 0, none⟩ k 0 l2 L σ B) 0 l0 L σ B) : SReg P w0 T n id l k X R L σ B :=
  ⟨fun hT hm hd hB => by
    rw [xOrd_eq, xOrd_eq, xOrd_eq] at h
    have hlt : ∀ i ∈ pre ++ p :: q :: post, i < l.length := by
      simp only [orderOk2, Bool.and_eq_true] at ho
      intro i hi
      simpa using order_lt ho.1.1.1.1 i hi
    have go : ∀ (ord : List Nat) (Q : AEnv → St → Prop) (E : AEnv) (σ : St), (∀ i ∈ ord, i < l.length) → RunsL P w0 (l.map (·.dst)) ⟨fun i => gk kd (gk ord i), 0, none⟩ Q 0 (ord.filterMap fun i => l[i]?) E σ → Runs P w0 l.toArray ⟨gk kd, 0, none⟩ Q ord E σ := fun ord Q E σ hl h =>
      runsL_perm ord ⟨fun i => gk kd (gk ord i), 0, none⟩ 0 E σ (fun j => congrArg (gk kd) (by rw [Nat.zero_add, gk_eq])) rfl hl h
    refine W.regionD2 hm ⟨gk kd, 0, none⟩ pre p q post ho hd (go pre _ _ _ (fun i hi => hlt i (by simp [hi])) ?_)
    have hx := Xr_ok (P := P) (w0 := w0) hT _ _ _ _ _ hB h
    refine runsL_mono (fun E σ q => ?_) hx
    obtain ⟨L', B', rfl, hB', q1, q2⟩ := q
    exact ⟨go _ _ _ _ (fun i hi => hlt i (List.mem_append_right _ hi)) (Xr_ok hT _ _ _ _ _ hB' q1), go _ _ _ _ (fun i hi => hlt i (by simp at hi ⊢; rcases hi with h | h | h <;> simp [h])) (Xr_ok hT _ _ _ _ _ hB' q2)⟩⟩
end
theorem SLoop.fz {P : Program} {w0 : Base} {T : TT} {n : Nat} {c : Code} {k : SL → St → BL → Prop} {X : Nat → SL → St → BL → Prop} {R : SL → St → BL → Prop} {L : SL} {σ : St} {B : BL} (t i : Nat) {b : Nat} {cs : List AV} (σ' : St) (B' : BL) (hi : nth B i = some (b, cs)) (hl : St.Le σ' σ) (hn : σ'.box b = none) (hK : Know σ' B') (hk : lk L t = .ptr b 0) (h1 : cs.all AV.one = true) (h : SLoop P w0 T n c k X R ((t, .vp (.agg cs)) :: L) σ' B') : SLoop P w0 T n c k X R L σ B :=
  ⟨fun hT ho hB => W.freeze t (.agg cs) (hB.get hi) (by rw [← lk_eq]; exact hk) rfl (fun c hc => List.all_eq_true.1 h1 c hc) hl hn (h.go hT ho hK)⟩
end Go.Al
end
section
set_option linter.unusedVariables false
set_option linter.unusedSimpArgs false
namespace Go.Al
open Go.RowKit
def jumpOf : Exit → Option Code
  | .ret => some .ret
  | .exit j => some (.exit j)
  | _ => none
theorem setObj_other {σ : St} {l i : Nat} {q : Option Ob} (h : i ≠ l) : (σ.setObj l q).obj i = σ.obj i := by simp [St.setObj, h]
theorem setObj_same {σ : St} {l : Nat} {q : Option Ob} : (σ.setObj l q).obj l = q := by simp [St.setObj]
theorem setObj_setObj {σ : St} {l : Nat} {q r : Option Ob} : (σ.setObj l q).setObj l r = σ.setObj l r := by
  simp only [St.setObj]; congr 1; funext j; split <;> rfl
structure Round (P : Program) (w0 : Base) (n : Nat) (F FO : List Nat) (N : St → Prop) (D : Exit → St → Prop) (σ0 : St) (body : Code) (s : St) (e : Exit) (E1 : AEnv) (s1 : St) : Prop where
  e : e = .normal
  o : s1.obj = s.obj
  k : Kp F FO s s1
  b : ∀ l q, σ0.obj l = none → W P w0 n body (fun e _ s2 => Kp F FO (s1.setObj l q) s2 ∧ match e with | .normal => N s2 | .ret => D .ret s2 | .exit j => D (.exit j) s2 | _ => False) E1 (s1.setObj l q)
theorem Inv.entered {w0 : Base} {G : Gh} {σ : St} {w w' : World} {r : Loop} {E : AEnv} (hI : Inv w0 G σ w) (hE : ∀ t, Rel G w (E t) (r.tmps.getD t undef)) : Inv w0 G (σ.setObj w.heap.size (some (.loop r E))) (w.alloc (.loop r)) ∧ Ext G w G (w.alloc (.loop r)) :=
  hI.newOb fun w' ex hw => .loop hI.size hw fun t => (hE t).ext ex
theorem W.rangeFunc {P : Program} {w0 : Base} {n : Nat} {g : Operand} {ps : Array Tmp} {assign body : Code} {Q : Exit → AEnv → St → Prop} {E : AEnv} {σ : St} {f : FuncId} {first cap : List AV} {xss : List (List AV)} (hg : aeval E g = .fn (.func f) first cap) (hf : Own P f)
    (hps : ∀ t ∈ ps.toList, t < n) (hlen : ∀ xs ∈ xss, ps.size = xs.length) (hit : IterW P w0 f first cap xss) (F FO : List Nat) (I : Nat → St → Prop) (D : Exit → St → Prop) (hU : ∀ k, Free σ (I k)) (hUD : ∀ e, Free σ (D e))
    (hF : ∀ k s, I k s → ∀ i ∈ F, s.box i ≠ none) (hFD : ∀ e s, D e s → ∀ i ∈ F, s.box i ≠ none) (hFO : ∀ i ∈ FO, σ.obj i ≠ none) (hI' : ∀ k s, I k s → ∀ i ∈ FO, s.obj i ≠ none) (hD' : ∀ e s, D e s → ∀ i ∈ FO, s.obj i ≠ none) (h0 : I 0 σ)
    (round : ∀ k xs s, xss[k]? = some xs → I k s → W P w0 n assign (Round P w0 n F FO (I (k + 1)) D σ body s) (updL E ps.toList xs) s)
    (done : ∀ s, I xss.length s → Q .normal E s) (left : ∀ e s, D e s → (jumpOf e).isSome = true → Q e E s) : W P w0 n (.rangeFunc g ps assign body) Q E σ := ⟨fun G w a hI hE hn ro hd => by
  refine wpIn_rangeFunc fun fn _ => ?_
  have hgr := aeval_rel hE g
  rw [hg] at hgr
  generalize hgv : a.eval g = gv at hgr
  cases hgr with
  | fn hv1 hv2 =>
    rename_i vs us
    -- entering
    have hent : ∃ (l : Nat) (mark : List Deferred) (w1 : World) (rec : Loop), (Instr.enterLoop fn a.tmps ps assign body (wideAt ro).round).run P w = .ok (l, mark) w1 ∧ rec.state = .ready ∧ rec.pending = none ∧ rec.tmps = a.tmps ∧ rec.params = ps ∧ rec.assign = assign ∧ rec.body = body ∧
        Inv w0 G (σ.setObj l (some (.loop rec E))) w1 ∧ Ext G w G w1 ∧ σ.obj l = none ∧ Fr ro w1 (mark ++ a.defers) := by
      obtain ⟨rl, rlo⟩ := ro
      cases rl with
      | none =>
        have g1 := grows_plain G w (.deferred (some []))
        have hI1 := g1.inv hI
        have hr := run_enterLoop_outer (P := P) (w := w) fn a.tmps ps assign body
        obtain ⟨hI2, ex2⟩ := hI1.entered (w' := w) (E := E) (r := { state := .ready, pending := none, fn, tmps := a.tmps, params := ps, assign, body, defers := w.heap.size }) fun t => (hE.get t).ext g1.ext
        have hs : ({ w with heap := w.heap.push (.deferred (some [])) } : World).heap.size = w.heap.size + 1 := by simp
        rw [hs] at hI2
        refine ⟨_, _, _, _, hr, rfl, rfl, rfl, rfl, rfl, rfl, hI2, g1.ext.trans ex2, hI.obj_new (by omega), ?_⟩
        have hd2 := hd.ext (g1.ext.trans ex2)
        obtain ⟨Ds, h1, h2, h3⟩ := hd2.marks
        obtain ⟨Ds0, k1, k2, k3⟩ := hd.marks
        have eD : Ds0 = Ds := by
          have : Ds0.map markOf = Ds.map markOf := k1.symm.trans h1
          have inj : ∀ (x y : List Nat), x.map markOf = y.map markOf → x = y := by
            intro x
            induction x with
            | nil => intro y hy; cases y with
              | nil => rfl
              | cons b y => simp at hy
            | cons a x ih => intro y hy; cases y with
              | nil => simp at hy
              | cons b y =>
                simp only [List.map_cons, List.cons.injEq] at hy
                rw [ih y hy.2]
                have := hy.1
                simp only [markOf, Deferred.mk.injEq, Target.collected.injEq, and_true] at this
                rw [this]
          exact inj _ _ this
        subst eD
        refine ⟨⟨w.heap.size :: Ds0, by rw [k1]; rfl, ?_, ?_⟩, hd2.loop, hd2.lo⟩
        · rw [List.nodup_cons]
          refine ⟨fun hm => ?_, k2⟩
          have := lt_of_get (k3 _ hm).2
          omega
        · intro D hD
          rcases List.mem_cons.1 hD with rfl | hD
          · refine ⟨hd.lo, ?_⟩
            exact ex2.sol.dfr _ _ g1.new
          · exact h3 D hD
      | some l0 =>
        obtain ⟨r0, hr0⟩ := hd.loop l0 rfl
        have hr := run_enterLoop_inner (P := P) hr0 fn a.tmps ps assign body
        obtain ⟨hI2, ex2⟩ := hI.entered (w' := w) (E := E) (r := { state := .ready, pending := none, fn, tmps := a.tmps, params := ps, assign, body, defers := r0.defers }) hE.get
        exact ⟨_, _, _, _, hr, rfl, rfl, rfl, rfl, rfl, rfl, hI2, ex2, hI.obj_new (Nat.le_refl _), hd.ext ex2⟩
    obtain ⟨l, mark, w1, rec, hent, hs, hp, ht, hpar, has, hbo, hI1, ex1, hfr, hd1⟩ := hent
    have hlFO : l ∉ FO := fun h => hFO l h hfr
    -- the iterator's call
    have hfree : ∀ J : St → Prop, Free σ J → Free (σ.setObj l (some (.loop rec E))) J := fun J h => ⟨h.up, h.box, fun s i q hi hs => h.obj s i q (by
      have hne : i ≠ l := by rintro rfl; rw [setObj_same] at hi; cases hi
      rwa [setObj_other hne] at hi) hs⟩
    have hown : ∀ r, Free (σ.setObj l (some (.loop rec E))) (fun s => s.obj l = some (.loop r E)) := fun r => .hasObj (by rw [setObj_same]; simp) _
    have hO : ∀ k s l q, σ.obj l = none → I k s → I k (s.setObj l q) := fun k s l q hl h => (hU k).obj s l q hl h
    have hOD : ∀ e s l q, σ.obj l = none → D e s → D e (s.setObj l q) := fun e s l q hl h => (hUD e).obj s l q hl h
    have hcall := hit.go l F (l :: FO) (fun k s => I k s ∧ s.obj l = some (.loop rec E)) (fun s => ∃ e c, jumpOf e = some c ∧ D e s ∧ s.obj l = some (.loop (recAt rec .done (some c)) E)) (σ.setObj l (some (.loop rec E)))
      (fun k => (hfree _ (hU k)).and (hown _)) (.ex fun e => .ex fun c => (Free.pure _).and ((hfree _ (hUD e)).and (hown _)))
      (fun k s h => ⟨hF k s h.1, fun i hi => by
        rcases List.mem_cons.1 hi with rfl | hi
        · rw [h.2]; simp
        · exact hI' k s h.1 i hi⟩)
      (fun s ⟨e, c, h1, h2, h3⟩ => ⟨hFD e s h2, fun i hi => by
        rcases List.mem_cons.1 hi with rfl | hi
        · rw [h3]; simp
        · exact hD' e s h2 i hi⟩)
      (fun k xs s hx ⟨hi, hl⟩ => by
        refine RoundW.mk' (n := n) hl hs hp (by rw [ht, hn]) (by rw [hpar]; exact hlen xs (List.mem_of_getElem? hx)) (by rw [hpar]; exact hps) ?_
        rw [hpar, has]
        refine (round k xs s hx hi).mono fun e E1 s1 q => ?_
        obtain ⟨rfl, ho, hk1, hb⟩ := q
        refine ⟨rfl, by rw [ho]; exact hl, ?_⟩
        rw [hbo]
        refine (hb l (some (.loop (recAt rec .busy none) E)) hfr).mono fun e E2 s2 ⟨hk2, q⟩ => ?_
        have hb2 : s2.obj l = some (.loop (recAt rec .busy none) E) := hk2.obj l _ hlFO setObj_same
        have kp : ∀ q', Kp F (l :: FO) s (s2.setObj l q') := fun q' => ⟨fun i cs hi e => hk2.box i cs hi (hk1.box i cs hi e), fun i o hi e => by
          have hne : i ≠ l := fun h => hi (by simp [h])
          have hnF : i ∉ FO := fun h => hi (by simp [h])
          rw [setObj_other hne]
          exact hk2.obj i o hnF (by rw [setObj_other hne]; exact hk1.obj i o hnF e)⟩
        cases e with
        | normal => exact ⟨hb2, kp _, .inl ⟨rfl, hO _ _ _ _ hfr q, setObj_same⟩⟩
        | ret => exact ⟨hb2, kp _, .inr ⟨rfl, .ret, _, rfl, hOD _ _ _ _ hfr q, setObj_same⟩⟩
        | exit j => exact ⟨hb2, kp _, .inr ⟨rfl, .exit j, _, rfl, hOD _ _ _ _ hfr q, setObj_same⟩⟩
        | goto t => exact q.elim
        | panic c => exact q.elim
        | outgrown => exact q.elim)
      ⟨hO _ _ _ _ hfr h0, setObj_same⟩
    have hrel : RelL G w1 (first ++ [.fn (.yield l) [] []] ++ cap) (vs ++ [.func (.yield l) #[] #[]] ++ us) := ((hv1.ext ex1).append (.cons (.fn .nil .nil) .nil)).append (hv2.ext ex1)
    refine ⟨l, mark, w1, { target := .fn (.func f) us.toArray, args := vs.toArray ++ #[.func (.yield l) #[] #[]] }, w1, f, (vs ++ [Value.func (.yield l) #[] #[]] ++ us).toArray, w1, hent, ?_, fun _ _ => trivial, ?_, fun e => by simp [wideAt, Fence.wide] at e, ?_⟩
    · simp only [resolve, hgv]
      simp [go_sem, Deferred.ofValue]
    · simp only [invoke]
      have := own_enter hf (vs.toArray ++ #[.func (.yield l) #[] #[]] ++ us.toArray) w1
      simpa using this
    · refine callsIn_at ((hcall.go G w1 _ hI1 hrel).mono ?_) ro
      rintro e w3 ⟨v, r, s, G3, rfl, ⟨hr, hkp, hq⟩, hI3, ex3, hrv⟩
      have fin : ∀ (st : LoopState) (pe : Option Code), s.obj l = some (.loop (recAt rec st pe) E) → st ≠ .busy → ∃ w4, (Instr.endLoop l).run P w3 = .ok pe w4 ∧ Inv w0 G3 (s.setObj l none) w4 ∧ RelE G3 w4 E { a with defers := mark ++ a.defers } ∧ Fr ro w4 (mark ++ a.defers) ∧ Ext G w G3 w4 := by
        intro st pe hl hst
        obtain ⟨hb, here, rel⟩ := loop_here hI3 hl
        have ex4 : Ext G3 w3 G3 (w3.putObj l (.loop { recAt rec st pe with state := .exhausted })) := putObj_ext here rfl rfl (by simp) (fun _ _ => ⟨_, rfl⟩)
        refine ⟨_, run_endLoop here hst, hI3.putOb (σ' := s.setObj l none) hb here rfl rfl rfl rfl (fun i q hi => .inl ?_), ⟨fun t => (hE.get t).ext (ex1.trans (ex3.trans ex4))⟩, (hd1.ext (ex3.trans ex4)), ex1.trans (ex3.trans ex4)⟩
        by_cases e : i = l
        · subst e; rw [setObj_same] at hi; cases hi
        · exact ⟨e, by rwa [setObj_other e] at hi⟩
      rcases hq with ⟨hi, hl⟩ | ⟨e, c, hc, hD, hl⟩
      · obtain ⟨w4, he, hI4, hE4, hd4, ex4⟩ := fin .ready none (by rw [recAt_self hs hp]; exact hl) (by simp)
        exact ⟨_, w4, he, E, s.setObj l none, G3, done _ (hO _ _ _ _ hfr hi), hI4, hE4, hn, hd4, ex4⟩
      · obtain ⟨w4, he, hI4, hE4, hd4, ex4⟩ := fin .done (some c) hl (by simp)
        have hQ := left e _ (hOD e s l none hfr hD) (by rw [hc]; rfl)
        refine ⟨_, w4, he, ?_⟩
        cases e with
        | ret => cases hc; exact wpIn_ret ⟨E, s.setObj l none, G3, hQ, hI4, hE4, hn, hd4, ex4⟩
        | exit j => cases hc; exact wpIn_exit ⟨E, s.setObj l none, G3, hQ, hI4, hE4, hn, hd4, ex4⟩
        | normal => cases hc
        | goto t => cases hc
        | panic c => cases hc
        | outgrown => cases hc⟩
end Go.Al
end
section
set_option linter.unusedVariables false
set_option linter.unusedSimpArgs false
namespace Go.Al
open Go.RowKit
theorem Know.le {τ s : St} {B : BL} (h : Know τ B) (hl : St.Le τ s) : Know s B := ⟨fun p hp => hl.box _ _ (h.has p hp), h.nd⟩
def updSL (L : SL) : List Tmp → List AV → SL
  | t :: ts, x :: xs => updSL ((t, x) :: L) ts xs
  | _, _ => L
theorem updSL_env : ∀ (L : SL) (ts : List Tmp) (xs : List AV), updL (env L) ts xs = env (updSL L ts xs)
  | L, t :: ts, x :: xs => by
    rw [updL, updSL, ← updSL_env]
    congr 1
  | L, [], xs => by cases xs <;> rfl
  | L, t :: ts, [] => rfl
theorem Free.know {σ : St} {B : BL} (h : ∀ p ∈ B, σ.box p.1 ≠ none) : Free σ (fun s => Know s B) := ⟨fun _ _ k hl => k.le hl, fun s b cs hb k => ⟨fun p hp => by rw [setBox_ne (by rintro rfl; exact h p hp hb)]; exact k.has p hp, k.nd⟩, fun s l q _ k => k.obj l q⟩
section
variable {P : Program} {w0 : Base} {T : TT} {n : Nat} {k : SL → St → BL → Prop} {X : Nat → SL → St → BL → Prop} {R : SL → St → BL → Prop} {L : SL} {σ : St} {B : BL}
theorem Stop.range (hT : T.ok P) (hm : P.follows .mixedOrders = true) {g : Operand} {ps : Array Tmp} {assign body : Code} {f : FuncId} {first cap : List AV} (hg : ev L g = .fn (.func f) first cap) [hf : OwnF P f] (psl : List Tmp) (hpl : ps.toList = psl) (hps : ∀ t ∈ psl, t < n) (ho1 : codeOk n assign = true) (ho2 : codeOk n body = true)
    {xss : List (List AV)} (hlen : ∀ xs ∈ xss, psl.length = xs.length) (hit : IterW P w0 f first cap xss) (F FO : List Nat) {α β : Type} (ix : α → Nat) (bx : α → BL) (p : α → St → Prop) (a0 : α) (de : β → Exit) (dx : β → BL) (dp : β → St → Prop)
    (up : ∀ a, Free σ (p a)) (upD : ∀ b, Free σ (dp b)) (hK : ∀ a, ∀ q ∈ bx a, q.1 ∈ B.map (·.1)) (hKD : ∀ b, ∀ q ∈ dx b, q.1 ∈ B.map (·.1)) (hF : ∀ a, ∀ i ∈ F, i ∈ (bx a).map (·.1)) (hFD : ∀ b, ∀ i ∈ F, i ∈ (dx b).map (·.1))
    (hFO : ∀ i ∈ FO, σ.obj i ≠ none) (hFa : ∀ a s, p a s → ∀ i ∈ FO, s.obj i ≠ none) (hFb : ∀ b s, dp b s → ∀ i ∈ FO, s.obj i ≠ none) (h0 : ix a0 = 0) (hB0 : BSub (bx a0) B) (hp0 : p a0 σ)
    (round : ∀ a s xs, p a s → Know s (bx a) → xss[ix a]? = some xs → xOpen (updSL L psl xs) (bx a) fun L' B' => Xc P w0 T n assign (fun L1 s1 B1 => s1.obj = s.obj ∧ Kp F FO s s1 ∧ ∀ l q, σ.obj l = none → xOpen L1 B1 fun L1 B1 => Xc P w0 T n body
      (fun _ s2 B2 => Kp F FO (s1.setObj l q) s2 ∧ ∃ a', ix a' = ix a + 1 ∧ BSub (bx a') B2 ∧ p a' s2) (fun j _ s2 B2 => Kp F FO (s1.setObj l q) s2 ∧ ∃ b, de b = .exit j ∧ BSub (dx b) B2 ∧ dp b s2) (fun _ s2 B2 => Kp F FO (s1.setObj l q) s2 ∧ ∃ b, de b = .ret ∧ BSub (dx b) B2 ∧ dp b s2) L1 (s1.setObj l q) B1) (fun _ _ _ _ => False) (fun _ _ _ => False) L' s B')
    (done : ∀ a s, ix a = xss.length → p a s → Know s (bx a) → xOpen L (bx a) fun L B => k L s B)
    (left : ∀ b s, dp b s → Know s (dx b) → match de b with | .ret => xOpen L (dx b) fun L B => R L s B | .exit j => xOpen L (dx b) fun L B => X j L s B | _ => True) : Stop (Know σ B → W P w0 n (.rangeFunc g ps assign body) (QX k X R) (env L) σ) := ⟨fun hB => by
  subst hpl
  have hin : ∀ b, b ∈ B.map (·.1) → σ.box b ≠ none := fun b hb => by
    obtain ⟨q, hq, rfl⟩ := List.mem_map.1 hb
    rw [hB.has q hq]; simp
  refine W.rangeFunc (by rw [← ev_eq]; exact hg) hf.h hps (fun xs hx => by rw [← Array.length_toList]; exact hlen xs hx) hit F FO (fun i s => ∃ a, ix a = i ∧ Know s (bx a) ∧ p a s) (fun e s => ∃ b, de b = e ∧ Know s (dx b) ∧ dp b s)
    (fun i => .ex fun a => (Free.pure _).and ((Free.know fun q hq => hin q.1 (hK a q hq)).and (up a))) (fun e => .ex fun b => (Free.pure _).and ((Free.know fun q hq => hin q.1 (hKD b q hq)).and (upD b)))
    (fun i s ⟨a, h1, h2, h3⟩ j hj => by
      obtain ⟨q, hq, rfl⟩ := List.mem_map.1 (hF a j hj)
      rw [h2.has q hq]; simp)
    (fun e s ⟨b, h1, h2, h3⟩ j hj => by
      obtain ⟨q, hq, rfl⟩ := List.mem_map.1 (hFD b j hj)
      rw [h2.has q hq]; simp)
    hFO (fun i s ⟨a, h1, h2, h3⟩ => hFa a s h3) (fun e s ⟨b, h1, h2, h3⟩ => hFb b s h3) ⟨a0, h0, hB.sub hB0, hp0⟩ ?_ ?_ ?_
  · rintro i xs s hx ⟨a, rfl, hK, hp⟩
    have hr := round a s xs hp hK hx
    rw [xOpen_eq] at hr
    rw [updSL_env]
    refine (Xc_ok hT hm assign _ _ _ _ s (bx a) ho1 hK hr).mono fun e E1 s1 q => ?_
    cases e with
    | normal =>
      obtain ⟨L1, B1, rfl, hB1, h1, h2, h3⟩ := q
      refine ⟨rfl, h1, h2, fun l q hl => ?_⟩
      have hb := h3 l q hl
      rw [xOpen_eq] at hb
      refine (Xc_ok hT hm body _ _ _ L1 (s1.setObj l q) B1 ho2 (hB1.obj l q) hb).mono fun e E2 s2 q => ?_
      cases e with
      | normal =>
        obtain ⟨L2, B2, rfl, hB2, hk, a', k1, k2, k3⟩ := q
        exact ⟨hk, a', k1, hB2.sub k2, k3⟩
      | exit j =>
        obtain ⟨L2, B2, rfl, hB2, hk, b, k1, k2, k3⟩ := q
        exact ⟨hk, b, k1, hB2.sub k2, k3⟩
      | ret =>
        obtain ⟨L2, B2, rfl, hB2, hk, b, k1, k2, k3⟩ := q
        exact ⟨hk, b, k1, hB2.sub k2, k3⟩
      | goto t => exact q.elim
      | panic c => exact q.elim
      | outgrown => exact q.elim
    | exit j => obtain ⟨_, _, _, _, q⟩ := q; exact q.elim
    | ret => obtain ⟨_, _, _, _, q⟩ := q; exact q.elim
    | goto t => exact q.elim
    | panic c => exact q.elim
    | outgrown => exact q.elim
  · rintro s ⟨a, h1, h2, h3⟩
    have := done a s h1 h3 h2
    rw [xOpen_eq] at this
    exact ⟨L, bx a, rfl, h2, this⟩
  · rintro e s ⟨b, rfl, h2, h3⟩ hj
    have := left b s h3 h2
    cases hd : de b with
    | ret => rw [hd] at this; simp only [xOpen_eq] at this; exact ⟨L, dx b, rfl, h2, this⟩
    | exit j => rw [hd] at this; simp only [xOpen_eq] at this; exact ⟨L, dx b, rfl, h2, this⟩
    | normal => rw [hd] at hj; cases hj
    | goto t => rw [hd] at hj; cases hj
    | panic c => rw [hd] at hj; cases hj
    | outgrown => rw [hd] at hj; cases hj⟩
end
end Go.Al
end
section
set_option linter.unusedVariables false
set_option linter.unusedSimpArgs false
namespace Go.Al
open Go.RowKit
section
variable {P : Program} {w0 : Base} {ops : Array Oper} {kd : Kd}
def RunsF (P : Program) (w0 : Base) (ops : Array Oper) (kd : Kd) (C : Nat → Bool) (p : Nat) (post : List Nat) (Q : AEnv → St → Prop) : List Nat → AEnv → St → Prop
  | [], E, σ => Runs P w0 ops kd Q (p :: post) E σ
  | b :: mid, E, σ => (C b = true → Runs P w0 ops kd Q (p :: b :: (mid ++ post)) E σ) ∧ Runs P w0 ops kd (fun E σ => RunsF P w0 ops kd C p post Q mid E σ) [b] E σ
theorem runs_nest {Q : AEnv → St → Prop} {b : Nat} {l : List Nat} {E : AEnv} {σ : St} (h : Runs P w0 ops kd Q (b :: l) E σ) : Runs P w0 ops kd (fun E σ => Runs P w0 ops kd Q l E σ) [b] E σ := runs_cons b (fun _ _ h => h) h
theorem runs_flat {Q : AEnv → St → Prop} {l m : List Nat} {E : AEnv} {σ : St} (h : Runs P w0 ops kd (fun E σ => Runs P w0 ops kd Q m E σ) l E σ) : Runs P w0 ops kd Q (l ++ m) E σ := runs_app (fun _ _ h => h) l h
theorem runs_mono {Q Q' : AEnv → St → Prop} (hq : ∀ E σ, Q E σ → Q' E σ) {l : List Nat} {E : AEnv} {σ : St} (h : Runs P w0 ops kd Q l E σ) : Runs P w0 ops kd Q' l E σ := by
  have := runs_app (P := P) (w0 := w0) (ops := ops) (kd := kd) (Q := Q') (Q' := Q) (post := []) hq l h
  simpa using this
section
variable {C : Nat → Bool} {p : Nat} {post : List Nat} {Q : AEnv → St → Prop}
theorem runsF_p : ∀ (mid : List Nat) {E : AEnv} {σ : St}, (∀ j ∈ mid, C j = false → swapB ops kd.k j p = true) → RunsF P w0 ops kd C p post Q mid E σ → Runs P w0 ops kd Q (p :: (mid ++ post)) E σ
  | [], E, σ, _, h => h
  | b :: mid, E, σ, hs, h => by
    cases hb : C b with
    | true => exact h.1 hb
    | false =>
      have h2 := runs_mono (fun E σ h => runsF_p mid (fun j hj => hs j (by simp [hj])) h) h.2
      exact runs_swap (hs b (by simp) hb) (runs_flat h2)
theorem runsF_i {i : Nat} {Y : List Nat} : ∀ (X : List Nat) {E : AEnv} {σ : St}, (∀ j ∈ X, C j = false ∧ swapB ops kd.k j i = true) → RunsF P w0 ops kd C p post Q (X ++ i :: Y) E σ → Runs P w0 ops kd (fun E σ => RunsF P w0 ops kd C p post Q (X ++ Y) E σ) [i] E σ
  | [], E, σ, _, h => h.2
  | x :: X, E, σ, hs, h => by
    have h2 := runs_mono (fun E σ h => runsF_i X (fun j hj => hs j (by simp [hj])) h) h.2
    have h3 : Runs P w0 ops kd (fun E σ => RunsF P w0 ops kd C p post Q (X ++ Y) E σ) [x, i] E σ := runs_flat h2
    have h4 := runs_nest (runs_swap (hs x (by simp)).2 h3)
    exact runs_mono (fun E σ h => ⟨fun e => (by rw [(hs x (by simp)).1] at e; cases e), h⟩) h4
theorem runsF_app {m : List Nat} : ∀ (s : List Nat) {E : AEnv} {σ : St}, (∀ j ∈ s, C j = false) → Runs P w0 ops kd (fun E σ => RunsF P w0 ops kd C p post Q m E σ) s E σ → RunsF P w0 ops kd C p post Q (s ++ m) E σ
  | [], E, σ, _, h => h
  | x :: s, E, σ, hs, h => ⟨fun e => (by rw [hs x (by simp)] at e; cases e), runs_mono (fun E σ h => runsF_app s (fun j hj => hs j (by simp [hj])) h) (runs_nest h)⟩
theorem any_soundF {n : Nat} (hd : dstsOk n ops = true) {k1 : Nat → Nat} (hw : ∀ i ∈ post, Waits ops i p) :
    ∀ (fuel : Nat) (listed : Array Bool) (pre mid : List Nat) (E : AEnv) (σ : St), Left ops k1 listed (pre ++ p :: (mid ++ post)) → (pre ++ (mid ++ post)).Pairwise (fun j i => Waits ops i j ∨ swapB ops kd.k j i = true) → mid.Pairwise (fun c j => C c = true → Waits ops j c) → (∀ j ∈ pre, Waits ops p j ∨ swapB ops kd.k j p = true) → (∀ j ∈ mid, C j = false → swapB ops kd.k j p = true) → pre.length + mid.length = fuel →
      Runs P w0 ops kd (fun E σ => RunsF P w0 ops kd C p post Q mid E σ) pre E σ → ∀ {G : Gh} {w : World} {a : Act}, Inv w0 G σ w → RelE G w E a → a.tmps.size = n →
      ∀ {Qx : Exit → Act → World → Prop}, (∀ E' σ' G' w' a', Q E' σ' → Inv w0 G' σ' w' → RelE G' w' E' a' → a'.tmps.size = n → a'.defers = a.defers → Ext G w G' w' → Qx .normal a' w') → ∀ ro, wpAnyIn (wideAt ro) 0 P .any ops Qx (fuel + 1 + post.length) listed a w := by
  intro fuel
  induction fuel with
  | zero =>
    intro listed pre mid E σ h1 p1 p2 hpre hs hlen hr G w a hI hE hn Qx hk ro
    have e1 : mid = [] := List.eq_nil_of_length_eq_zero (by omega)
    have e2 : pre = [] := List.eq_nil_of_length_eq_zero (by omega)
    subst e1; subst e2
    rw [show 0 + 1 + post.length = post.length + 1 by omega]
    have hr' : Runs P w0 ops kd Q (p :: post) E σ := hr
    exact any_sound hd _ _ (p :: post) E σ (Left.pws h1 (List.pairwise_cons.2 ⟨fun i hi => .inl (hw i hi), by simpa using p1⟩)) (by simp) hr' hI hE hn hk ro
  | succ fuel ih =>
    intro listed pre mid E σ h1 p1 p2 hpre hs hlen hr G w a hI hE hn Qx hk ro
    rw [show fuel + 1 + 1 + post.length = (fuel + 1 + post.length) + 1 by omega]
    refine ⟨fun hnil => ?_, fun i hi => ?_⟩
    · exfalso
      have first : ∀ (q : Nat) (r : List Nat), pre ++ p :: (mid ++ post) = q :: r → False := fun q r e => by
        have hlt := h1.lt q (by rw [e]; simp)
        have hun := (h1.unl q hlt).2 (by rw [e]; simp)
        have : q ∈ Region.ready .any ops listed := ready_mem.2 ⟨hlt, hun, fun j hdj => by
          rcases h1.lin [] q r (by rw [e]; rfl) j hdj with h | h
          · exact h
          · simp at h⟩
        rw [hnil] at this
        simp at this
      cases pre with
      | nil => exact first p (mid ++ post) rfl
      | cons q r => exact first q _ rfl
    · obtain ⟨hlt, hun, _⟩ := ready_mem.1 hi
      have hmem := (h1.unl i hlt).1 hun
      simp only [List.mem_cons, List.mem_append] at hmem
      rcases hmem with hmem | rfl | hmem | hmem
      · -- one of those ahead
        obtain ⟨as, bs, rfl⟩ := List.append_of_mem hmem
        have hX : ∀ j ∈ as, swapB ops kd.k j i = true := fun j hj => by
          have hnw : ¬ Waits ops i j := h1.noWait hi (by simp [hj])
          rw [List.append_assoc] at p1
          rcases (List.pairwise_append.1 p1).2.2 j hj i (by simp) with h | h
          · exact absurd h hnw
          · exact h
        have e1 : (as ++ i :: bs) ++ p :: (mid ++ post) = as ++ i :: (bs ++ p :: (mid ++ post)) := by simp
        have e2 : as ++ (bs ++ p :: (mid ++ post)) = (as ++ bs) ++ p :: (mid ++ post) := by simp
        rw [e1] at h1
        have s1 := h1.step hi
        rw [e2] at s1
        have sub1 : ((as ++ bs) ++ (mid ++ post)).Sublist ((as ++ i :: bs) ++ (mid ++ post)) := by simp
        have sub2 : (as ++ bs).Sublist (as ++ i :: bs) := by simp
        refine step_run hd (runs_front as hX hr) hI hE hn (fun E' σ' G' w' a' hr2 hI' hE' hn' hdf e => ?_) ro
        refine ih _ (as ++ bs) mid E' σ' s1 (p1.sublist sub1) p2 (fun j hj => hpre j (sub2.subset hj)) hs (by simp at hlen ⊢; omega) hr2 hI' hE' hn' (fun E2 σ2 G2 w2 a2 qq hI2 hE2 hn2 hd2 e2 => ?_) ro
        exact hk E2 σ2 G2 w2 a2 qq hI2 hE2 hn2 (hd2.trans hdf) (e.trans e2)
      · have hX : ∀ j ∈ pre, swapB ops kd.k j i = true := fun j hj => by
          rcases hpre j hj with h | h
          · exact absurd h (h1.noWait hi (by simp [hj]))
          · exact h
        have hr2 : Runs P w0 ops kd Q (pre ++ i :: (mid ++ post)) E σ := runs_flat (runs_mono (fun E σ h => runsF_p mid hs h) hr)
        refine step_run hd (runs_front pre hX hr2) hI hE hn (fun E' σ' G' w' a' hr2 hI' hE' hn' hdf e => ?_) ro
        refine any_sound hd _ _ (pre ++ (mid ++ post)) E' σ' ((Left.step h1 hi).pws p1) (by simp; omega) hr2 hI' hE' hn' (fun E2 σ2 G2 w2 a2 qq hI2 hE2 hn2 hd2 e2 => ?_) ro
        exact hk E2 σ2 G2 w2 a2 qq hI2 hE2 hn2 (hd2.trans hdf) (e.trans e2)
      · obtain ⟨as, bs, rfl⟩ := List.append_of_mem hmem
        have hX : ∀ j ∈ as, C j = false ∧ swapB ops kd.k j i = true := fun j hj => by
          have hnw : ¬ Waits ops i j := h1.noWait hi (by simp [hj])
          refine ⟨?_, ?_⟩
          · cases hc : C j with
            | false => rfl
            | true => exact absurd ((List.pairwise_append.1 p2).2.2 j hj i (by simp) hc) hnw
          · have p1' := (List.pairwise_append.1 p1).2.1
            rw [List.append_assoc] at p1'
            rcases (List.pairwise_append.1 p1').2.2 j hj i (by simp) with h | h
            · exact absurd h hnw
            · exact h
        have hP : ∀ j ∈ pre, swapB ops kd.k j i = true := fun j hj => by
          rcases (List.pairwise_append.1 p1).2.2 j hj i (by simp) with h | h
          · exact absurd h (h1.noWait hi (by simp [hj]))
          · exact h
        have e1 : pre ++ p :: ((as ++ i :: bs) ++ post) = (pre ++ p :: as) ++ i :: (bs ++ post) := by simp
        have e2 : (pre ++ p :: as) ++ (bs ++ post) = pre ++ p :: ((as ++ bs) ++ post) := by simp
        rw [e1] at h1
        have s1 := h1.step hi
        rw [e2] at s1
        have sub1 : (pre ++ ((as ++ bs) ++ post)).Sublist (pre ++ ((as ++ i :: bs) ++ post)) := by simp
        have sub2 : (as ++ bs).Sublist (as ++ i :: bs) := by simp
        have hr2 : Runs P w0 ops kd (fun E σ => RunsF P w0 ops kd C p post Q (as ++ bs) E σ) (pre ++ i :: []) E σ := runs_flat (runs_mono (fun E σ h => runsF_i as hX h) hr)
        have hr3 := runs_front (post := []) pre hP hr2
        rw [List.append_nil] at hr3
        refine step_run hd hr3 hI hE hn (fun E' σ' G' w' a' hr2 hI' hE' hn' hdf e => ?_) ro
        refine ih _ pre (as ++ bs) E' σ' s1 (p1.sublist sub1) (p2.sublist sub2) hpre (fun j hj => hs j (sub2.subset hj)) (by simp at hlen ⊢; omega) hr2 hI' hE' hn' (fun E2 σ2 G2 w2 a2 qq hI2 hE2 hn2 hd2 e2 => ?_) ro
        exact hk E2 σ2 G2 w2 a2 qq hI2 hE2 hn2 (hd2.trans hdf) (e.trans e2)
      · exact absurd (hw i hmem) (h1.noWait hi (by simp))
end
def chainOk (C : Nat → Bool) (ms : List Nat) : List Nat → Bool
  | [] => true
  | c :: rest => (!C c || rest.all fun j => (ms.getD j 0).testBit c) && chainOk C ms rest
theorem chain_pw {C : Nat → Bool} {ms : List Nat} (hw : ∀ i j, (ms.getD i 0).testBit j = true → Waits ops i j) : ∀ {l : List Nat}, chainOk C ms l = true → l.Pairwise fun c j => C c = true → Waits ops j c
  | [], _ => .nil
  | c :: l, h => by
    simp only [chainOk, Bool.and_eq_true, Bool.or_eq_true, Bool.not_eq_true', List.all_eq_true] at h
    refine .cons (fun j hj hc => ?_) (chain_pw hw h.2)
    rcases h.1 with h1 | h1
    · rw [hc] at h1; cases h1
    · exact hw _ _ (h1 j hj)
def orderOkF (ops : Array Oper) (kind : Nat → Nat) (C : Nat → Bool) (pre : List Nat) (p : Nat) (mid post : List Nat) : Bool :=
  orderOk ops (fun _ => 0) (pre ++ p :: (mid ++ post)) && pairsOk ops kind (masks ops.toList []) (pre ++ (mid ++ post)) && chainOk C (masks ops.toList []) mid && pre.all (fun j => ((masks ops.toList []).getD p 0).testBit j || swapB ops kind j p) && mid.all (fun j => C j || swapB ops kind j p) && post.all fun i => ((masks ops.toList []).getD i 0).testBit p
theorem W.regionDF {n id : Nat} {Q : Exit → AEnv → St → Prop} {E : AEnv} {σ : St} (hm : P.follows .mixedOrders = true) (kind : Kd) (C : Nat → Bool) (pre : List Nat) (p : Nat) (mid post : List Nat) (ho : orderOkF ops kind.k C pre p mid post = true) (hd : dstsOk n ops = true)
    (h : Runs P w0 ops kind (fun E σ => RunsF P w0 ops kind C p post (fun E σ => Q .normal E σ) mid E σ) pre E σ) : W P w0 n (.region id ops true) Q E σ := ⟨fun G w a hI hE hn ro hdf => by
  simp only [orderOkF, Bool.and_eq_true, List.all_eq_true, Bool.or_eq_true] at ho
  obtain ⟨⟨⟨⟨⟨o1, o2⟩, o3⟩, o6⟩, o4⟩, o5⟩ := ho
  obtain ⟨l1, hlen⟩ := order_left o1
  have hw := masks_spec (ops := ops) ops.toList [] [] (by simp) rfl (fun i j h => by simp at h)
  have hA : Alike0 w { w with drawn := w.drawn + 1 } := ⟨rfl, rfl, rfl, rfl⟩
  have hz : ops.size = (pre.length + mid.length) + 1 + post.length := by rw [← hlen]; simp; omega
  refine wpIn_region_any hm ?_
  rw [hz]
  rw [hz] at l1
  exact any_soundF hd (fun i hi => hw _ _ (o5 i hi)) _ _ pre mid E σ l1 ((pairs_pw o2).imp fun h => h.imp (hw _ _) fun h => h) (chain_pw hw o3) (fun j hj => (o6 j hj).imp (hw _ _) fun h => h) (fun j hj hc => by
    rcases o4 j hj with h | h
    · rw [hc] at h; cases h
    · exact h) rfl h (hA.inv hI) (hE.ext hA.ext) hn (fun E' σ' G' w' a' q r1 r2 r3 r4 r5 => ⟨E', σ', G', q, r1, r2, r3, hdf.to r4 (hA.ext.trans r5), hA.ext.trans r5⟩) ro⟩
end
section
variable {P : Program} {w0 : Base} {T : TT} {n id : Nat} {l : List Oper} {k : SL → St → BL → Prop} {X : Nat → SL → St → BL → Prop} {R : SL → St → BL → Prop} {L : SL} {σ : St} {B : BL}
def XO (P : Program) (w0 : Base) (T : TT) (l : List Oper) (kd : List Nat) (b : Nat) (cs : Option (List AV)) (ord : List Nat) (k : SL → St → BL → Prop) (L : SL) (σ : St) (B : BL) : Prop :=
  xOrd l ord fun l' => Xr P w0 T l ⟨fun j => gk kd (gk ord j), b, cs⟩ k 0 l' L σ B
theorem XO_runs (hT : T.ok P) {kd : List Nat} {b : Nat} {cs : Option (List AV)} {ord : List Nat} (hl : ∀ i ∈ ord, i < l.length) (hB : Know σ B) (h : XO P w0 T l kd b cs ord k L σ B) : Runs P w0 l.toArray ⟨gk kd, b, cs⟩ (QN k) ord (env L) σ := by
  unfold XO at h
  rw [xOrd_eq] at h
  exact runsL_perm ord ⟨fun i => gk kd (gk ord i), b, cs⟩ 0 (env L) σ (fun j => congrArg (gk kd) (by rw [Nat.zero_add, gk_eq])) rfl hl (Xr_ok hT _ _ _ _ _ hB h)
def XF (P : Program) (w0 : Base) (T : TT) (l : List Oper) (kd : List Nat) (b : Nat) (cs : Option (List AV)) (p : Nat) (post : List Nat) (k : SL → St → BL → Prop) : List (List Nat) → SL → St → BL → Prop
  | [], L, σ, B => XO P w0 T l kd b cs (p :: post) k L σ B
  | s :: rest, L, σ, B => XO P w0 T l kd b cs (p :: (s ++ rest.flatten ++ post)) k L σ B ∧ XO P w0 T l kd b cs s (fun L σ B => XF P w0 T l kd b cs p post k rest L σ B) L σ B
def isHead (segs : List (List Nat)) (j : Nat) : Bool := segs.any fun s => s.head? == some j
def segsOk (C : Nat → Bool) (segs : List (List Nat)) : Bool := segs.all fun s => match s with | [] => false | _ :: t => t.all fun j => !C j
theorem XF_runs (hT : T.ok P) {kd : List Nat} {b : Nat} {cs : Option (List AV)} {C : Nat → Bool} {p : Nat} {post : List Nat} (hp : p < l.length) (hpost : ∀ i ∈ post, i < l.length) : ∀ (segs : List (List Nat)) {L : SL} {σ : St} {B : BL}, segsOk C segs = true → (∀ i ∈ segs.flatten, i < l.length) → Know σ B → XF P w0 T l kd b cs p post k segs L σ B →
    RunsF P w0 l.toArray ⟨gk kd, b, cs⟩ C p post (QN k) segs.flatten (env L) σ
  | [], L, σ, B, _, _, hB, h => XO_runs hT (fun i hi => by rcases List.mem_cons.1 hi with rfl | hi; exact hp; exact hpost i hi) hB h
  | s :: rest, L, σ, B, hs, hl, hB, h => by
    simp only [segsOk, List.all_cons, Bool.and_eq_true] at hs
    cases s with
    | nil => simp at hs
    | cons c t =>
      have ht : ∀ j ∈ t, C j = false := fun j hj => by
        have := hs.1
        simp only [List.all_eq_true, Bool.not_eq_true'] at this
        exact this j hj
      have hl1 : ∀ i ∈ c :: t, i < l.length := fun i hi => hl i (by rw [List.flatten_cons]; exact List.mem_append_left _ hi)
      have hl2 : ∀ i ∈ rest.flatten, i < l.length := fun i hi => hl i (by rw [List.flatten_cons]; exact List.mem_append_right _ hi)
      rw [List.flatten_cons, List.cons_append]
      refine ⟨fun _ => ?_, ?_⟩
      · have := XO_runs (P := P) (w0 := w0) hT (fun i hi => by
          rcases List.mem_cons.1 hi with rfl | hi
          · exact hp
          · rcases List.mem_append.1 hi with hi | hi
            · rcases List.mem_append.1 hi with hi | hi
              · exact hl1 i hi
              · exact hl2 i hi
            · exact hpost i hi) hB h.1
        simpa using this
      · have h2 := runs_nest (XO_runs (P := P) (w0 := w0) hT hl1 hB h.2)
        refine runs_mono (fun E σ h => runsF_app t ht (runs_mono (fun E σ q => ?_) h)) h2
        obtain ⟨L', B', rfl, hB', q⟩ := q
        exact XF_runs hT hp hpost rest hs.2 hl2 hB' q
theorem SReg.fl (i : Nat) {b : Nat} {cs : List AV} (hi : nth B i = some (b, cs)) (pre : List Nat) (p : Nat) (seg0 : List Nat) (segs : List (List Nat)) (post kd : List Nat) (ho : (orderOkF l.toArray (gk kd) (isHead segs) pre p (seg0 ++ segs.flatten) post && segsOk (isHead segs) segs && seg0.all fun j => !isHead segs j) = true)
    (h : XO P w0 T l kd b (some cs) (pre ++ seg0) (fun L σ B => XF P w0 T l kd b (some cs) p post k segs L σ B) L σ B) : SReg P w0 T n id l k X R L σ B :=
  ⟨fun hT hm hd hB => by
    simp only [Bool.and_eq_true] at ho
    obtain ⟨⟨o1, o2⟩, o3⟩ := ho
    have hlt : ∀ i ∈ pre ++ p :: ((seg0 ++ segs.flatten) ++ post), i < l.length := by
      simp only [orderOkF, Bool.and_eq_true] at o1
      intro i hi
      simpa using order_lt o1.1.1.1.1.1 i hi
    have h0 : ∀ i ∈ pre ++ seg0, i < l.length := fun i hi => hlt i (by
      rcases List.mem_append.1 hi with hi | hi <;> simp [hi])
    have h1 : ∀ i ∈ segs.flatten, i < l.length := fun i hi => hlt i (List.mem_append_right _ (List.mem_cons_of_mem _ (List.mem_append_left _ (List.mem_append_right _ hi))))
    have h2 : ∀ i ∈ post, i < l.length := fun i hi => hlt i (List.mem_append_right _ (List.mem_cons_of_mem _ (List.mem_append_right _ hi)))
    have hr := XO_runs (P := P) (w0 := w0) hT h0 hB h
    have nest : ∀ (x y : List Nat) (Q' : AEnv → St → Prop) (E : AEnv) (s : St), Runs P w0 l.toArray ⟨gk kd, b, some cs⟩ Q' (x ++ y) E s → Runs P w0 l.toArray ⟨gk kd, b, some cs⟩ (fun E s => Runs P w0 l.toArray ⟨gk kd, b, some cs⟩ Q' y E s) x E s := by
      intro x
      induction x with
      | nil => intro y Q' E s h; exact h
      | cons q x ih => intro y Q' E s h; exact runs_cons q (fun E s h => ih y Q' E s h) h
    refine W.regionDF hm ⟨gk kd, b, some cs⟩ (isHead segs) pre p (seg0 ++ segs.flatten) post o1 hd (runs_mono (fun E σ q => runsF_app seg0 (fun j hj => ?_) (runs_mono (fun E σ q => ?_) q)) (nest pre seg0 _ _ _ hr))
    · have := List.all_eq_true.1 o3 j hj
      simpa using this
    · obtain ⟨L', B', rfl, hB', q⟩ := q
      exact XF_runs hT (hlt p (by simp)) h2 segs o2 h1 hB' q⟩
theorem SReg.meet {α : Type} (inv : α → SL) (bx : α → BL) (p : α → St → Prop) (q1 : SReg P w0 T n id l (fun L1 σ1 B1 => ∃ a, At inv bx p a L1 σ1 B1) X R L σ B) (q : ∀ a σ, p a σ → Know σ (bx a) → xOpen (inv a) (bx a) fun L B => k L σ B) : SReg P w0 T n id l k X R L σ B :=
  ⟨fun hT hm hd hB => (q1.go hT hm hd hB).monoW fun e E s h => by
    cases e with
    | normal =>
      obtain ⟨L1, B1, rfl, hB1, a, h'⟩ := h
      exact ⟨env (inv a), (Has.by (xWeak_has h'.weak)).go, inv a, bx a, rfl, hB1.sub h'.box, by have := q a s h'.p (hB1.sub h'.box); rwa [xOpen_eq] at this⟩
    | exit j => exact ⟨E, fun t => .refl _, h⟩
    | ret => exact ⟨E, fun t => .refl _, h⟩
    | goto l => exact ⟨E, fun t => .refl _, h⟩
    | panic c => exact ⟨E, fun t => .refl _, h⟩
    | outgrown => exact ⟨E, fun t => .refl _, h⟩⟩
theorem box_none {σ : St} {b c : Nat} {cs : List AV} (h : (σ.setBox c cs).box b = none) : σ.box b = none ∧ b ≠ c := by
  have hne : b ≠ c := by rintro rfl; rw [setBox_same] at h; cases h
  rw [setBox_ne hne] at h
  exact ⟨h, hne⟩
end
end Go.Al
end
section
set_option linter.unusedVariables false
set_option linter.unusedSimpArgs false
namespace Go.Al

structure Row where
  key : List UInt8
  val : List UInt8
  deriving DecidableEq
def eBytes (l : List UInt8) : AV := .slc 1 (aBytes l) .no
def eRow (r : Row) : AV := .agg [.str r.key, eBytes r.val]
def eRows (l : List Row) : AV := .slc 2 (l.map eRow) .no
structure Msg where
  seq : Int
  body : List UInt8
  attr : List UInt8
  tries : Int
  until_ : Int
  dead : Bool
  why : List UInt8
  prio : Int
  deriving DecidableEq
def eMsg (m : Msg) : AV := .agg [.int .i64 m.seq, .str m.body, .str m.attr, .int .i64 m.tries, .int .i64 m.until_, .bool m.dead, .str m.why, .int .i64 m.prio]
structure Sub where
  id : Int
  name : List UInt8
  topic : List UInt8
  want : List UInt8
  lease : Int
  most : Int
  floor : Int
  acks : List Int
  queue : List Msg
  note : List UInt8
  deriving DecidableEq
def eInts (l : List Int) : AV := .slc 1 (l.map (.int .i64)) .no
def eMsgs (l : List Msg) : AV := .slc 8 (l.map eMsg) .no
def eSub (x : Sub) : AV := .agg [.int .i64 x.id, .str x.name, .str x.topic, .str x.want, .int .i64 x.lease, .int .i64 x.most, .int .i64 x.floor, eInts x.acks, eMsgs x.queue, .str x.note]
end Go.Al
end
