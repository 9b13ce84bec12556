/- The law StateRights returns true for every input, and its arguments read as before: the tied card. No conditions. This is part 3 of 7 of its proof; the parts are read in order. No conditions. -/
import Derived.Test.YtgliemhhnkhboaaGreatDoorCStateRightsP2
import Derived.RangeFuncNested
import Derived.ChangeArms
import Derived.ChangeOld
import Derived.SizedLaws
section
set_option linter.unusedVariables false
set_option linter.unusedSimpArgs false
namespace Go.Al
open Go.RowKit

def put (L : SL) (d : Option Nat) (r : AV) : SL :=
  match d with
  | some t => (t, r) :: L
  | none => L
theorem put_env (L : SL) (d : Option Nat) (r : AV) : upd (env L) d r = env (put L d r) := by cases d <;> rfl
def xPut (L : SL) (d : Option Nat) (r : AV) (K : SL → Prop) : Prop :=
  match d with
  | some t => K ((t, r) :: L)
  | none => K L
theorem xPut_eq (L : SL) (d : Option Nat) (r : AV) (K : SL → Prop) : xPut L d r K = K (put L d r) := by cases d <;> rfl
def dsAt : List Oper → Nat → Option Tmp
  | [], _ => none
  | o :: _, 0 => o.dst
  | _ :: l, n + 1 => dsAt l n
theorem dsAt_eq : ∀ (l : List Oper) (n : Nat), (l.map (·.dst)).getD n none = dsAt l n
  | [], n => by simp [dsAt]
  | o :: l, 0 => by simp [dsAt]
  | o :: l, n + 1 => by
    rw [dsAt, ← dsAt_eq l n]; simp [List.getD]
def xGuard (os : List Oper) (L : SL) (o : Oper) (stop kskip krun : Prop) : Prop :=
  match o.guard with
  | none => krun
  | some (j, want) => match dsAt os j with
    | none => stop
    | some d => match lk L d with
      | .bool b => bif want then SCond b krun kskip else SCond b kskip krun
      | .tup [] => kskip
      | _ => stop
theorem xGuard_ok {os : List Oper} {L : SL} {o : Oper} {stop kskip krun : Prop} (h : xGuard os L o stop kskip krun) : stop ∨ (aWantL (os.map (·.dst)) (env L) o = some false ∧ kskip) ∨ (aWantL (os.map (·.dst)) (env L) o = some true ∧ krun) := by
  unfold xGuard at h
  split at h
  · rename_i hg
    exact .inr (.inr ⟨by simp [aWantL, hg], h⟩)
  · rename_i j want hg
    split at h
    · exact .inl h
    · rename_i d hd
      rw [← dsAt_eq] at hd
      split at h
      · rename_i b hb
        rw [lk_eq] at hb
        have hw := want_guard hg hd hb
        cases want <;> cases b
        · exact .inr (.inr ⟨hw, h.f rfl⟩)
        · exact .inr (.inl ⟨hw, h.t rfl⟩)
        · exact .inr (.inl ⟨hw, h.f rfl⟩)
        · exact .inr (.inr ⟨hw, h.t rfl⟩)
      · rename_i hb
        rw [lk_eq] at hb
        exact .inr (.inl ⟨want_n hg hd hb, h⟩)
      · exact .inl h
def QN (k : SL → St → BL → Prop) : AEnv → St → Prop := fun E s => ∃ L B, E = env L ∧ Know s B ∧ k L s B
def Xr (P : Program) (w0 : Base) (T : TT) (os : List Oper) (kd : Kd) (k : SL → St → BL → Prop) : Nat → List Oper → SL → St → BL → Prop
  | _, [], L, σ, B => k L σ B
  | i, o :: rest, L, σ, B =>
    xGuard os L o (Stop (Know σ B → RunsL P w0 (os.map (·.dst)) kd (QN k) i (o :: rest) (env L) σ))
      (xPut L o.dst (.tup []) fun L' => Xr P w0 T os kd k (i + 1) rest L' σ B)
      (xOper P w0 T (kd.cs.map fun cs => (kd.b, cs)) (kd.k i) L σ B (Stop (Know σ B → RunsL P w0 (os.map (·.dst)) kd (QN k) i (o :: rest) (env L) σ))
        (fun r s B' => fAV 4 r fun r' => xPut L o.dst r' fun L' => Xr P w0 T os kd k (i + 1) rest L' s B') o.op)
theorem held_iff (kd : Kd) (s : St) : kd.held s ↔ HB (kd.cs.map fun cs => (kd.b, cs)) s := by
  unfold Kd.held HB
  constructor
  · intro h p hp
    obtain ⟨cs, h1, rfl⟩ := Option.map_eq_some_iff.1 hp
    exact h cs h1
  · intro h cs hc
    exact h (kd.b, cs) (by rw [hc]; rfl)
theorem Xr_ok {P : Program} {w0 : Base} {T : TT} (hT : T.ok P) {os : List Oper} {kd : Kd} {k : SL → St → BL → Prop} : ∀ (l : List Oper) (i : Nat) (L : SL) (σ : St) (B : BL), Know σ B → Xr P w0 T os kd k i l L σ B → RunsL P w0 (os.map (·.dst)) kd (QN k) i l (env L) σ
  | [], i, L, σ, B, hB, h => ⟨L, B, rfl, hB, h⟩
  | o :: l, i, L, σ, B, hB, h => by
    rw [Xr] at h
    rcases xGuard_ok h with h | ⟨hw, h⟩ | ⟨hw, h⟩
    · exact h.h hB
    · rw [xPut_eq] at h
      unfold RunsL
      simp only [hw]
      rw [put_env]
      exact Xr_ok hT l _ _ σ B hB h
    · rcases xOper_ok (H := kd.held) hT hB rfl (held_iff kd) h with h | h
      · exact h.h hB
      · unfold RunsL
        simp only [hw]
        refine h.mono fun r s ⟨B', hB', h⟩ => ?_
        rw [fAV_eq, xPut_eq] at h
        rw [put_env]
        exact Xr_ok hT l _ _ s B' hB' h
def codeOk (n : Nat) : Code → Bool
  | .region _ ops _ => dstsOk n ops
  | .seq a b => codeOk n a && codeOk n b
  | .cond _ a b => codeOk n a && codeOk n b
  | .block _ c => codeOk n c
  | .loop c => codeOk n c
  | _ => true
def QX (k : SL → St → BL → Prop) (X : Nat → SL → St → BL → Prop) (R : SL → St → BL → Prop) : Exit → AEnv → St → Prop
  | .normal, E, s => QN k E s
  | .exit j, E, s => QN (X j) E s
  | .ret, E, s => QN R E s
  | _, _, _ => False
structure SLoop (P : Program) (w0 : Base) (T : TT) (n : Nat) (c : Code) (k : SL → St → BL → Prop) (X : Nat → SL → St → BL → Prop) (R : SL → St → BL → Prop) (L : SL) (σ : St) (B : BL) : Prop where
  go : T.ok P → codeOk n c = true → Know σ B → W P w0 n (.loop c) (QX k X R) (env L) σ
structure SIf (P : Program) (w0 : Base) (T : TT) (n : Nat) (t : Bool) (c : Operand) (x y : Code) (k : SL → St → BL → Prop) (X : Nat → SL → St → BL → Prop) (R : SL → St → BL → Prop) (L : SL) (σ : St) (B : BL) : Prop where
  go : T.ok P → codeOk n x = true → codeOk n y = true → Know σ B → aeval (env L) c = .bool t → W P w0 n (.cond c x y) (QX k X R) (env L) σ
def gk : List Nat → Nat → Nat
  | [], _ => 0
  | x :: _, 0 => x
  | _ :: l, n + 1 => gk l n
theorem gk_eq : ∀ (l : List Nat) (n : Nat), gk l n = l.getD n 0
  | [], n => by simp [gk]
  | x :: l, 0 => by simp [gk]
  | x :: l, n + 1 => by rw [gk, gk_eq l n]; simp [List.getD]
def xOrd (l : List Oper) : List Nat → (List Oper → Prop) → Prop
  | [], k => k []
  | i :: r, k => match nth l i with
    | some o => xOrd l r fun l' => k (o :: l')
    | none => xOrd l r k
theorem xOrd_eq (l : List Oper) : ∀ (r : List Nat) (k : List Oper → Prop), xOrd l r k = k (r.filterMap fun i => l[i]?)
  | [], k => rfl
  | i :: r, k => by
    rw [xOrd, nth_eq]
    cases h : l[i]? with
    | some o => simp only [xOrd_eq l r, List.filterMap_cons, h]
    | none => simp only [xOrd_eq l r, List.filterMap_cons, h]
structure SReg (P : Program) (w0 : Base) (T : TT) (n id : Nat) (l : List Oper) (k : SL → St → BL → Prop) (X : Nat → SL → St → BL → Prop) (R : SL → St → BL → Prop) (L : SL) (σ : St) (B : BL) : Prop where
  go : T.ok P → P.follows .mixedOrders = true → dstsOk n l.toArray = true → Know σ B → W P w0 n (.region id l.toArray true) (QX k X R) (env L) σ
section
variable {P : Program} {w0 : Base} {T : TT} {n id : Nat} {l : List Oper} {k : SL → St → BL → Prop} {X : Nat → SL → St → BL → Prop} {R : SL → St → BL → Prop} {L : SL} {σ : St} {B : BL}
theorem SReg.o (ord : List Nat) (rd : Nat) (ls : List Nat) (ho : orderOk l.toArray (kindOf rd ls l) ord = true) (h : Xr P w0 T l ⟨fun i => kindOf rd ls l (ord.getD i 0), 0, none⟩ k 0 (ord.filterMap fun i => l[i]?) L σ B) : SReg P w0 T n id l k X R L σ B :=
  ⟨fun hT hm hd hB => .regionD hm ⟨kindOf rd ls l, 0, none⟩ ord ho hd (runsL_perm ord ⟨fun i => kindOf rd ls l (ord.getD i 0), 0, none⟩ 0 (env L) σ (fun j => by show kindOf rd ls l (ord.getD (0 + j) 0) = _; rw [Nat.zero_add]) rfl (fun i hi => by simpa using order_lt ho i hi) (Xr_ok hT _ _ _ _ _ hB h))⟩
theorem SReg.d (ord kd : List Nat) (ho : orderOk l.toArray (gk kd) ord = true) (h : xOrd l ord fun l' => Xr P w0 T l ⟨fun i => gk kd (gk ord i), 0, none⟩ k 0 l' L σ B) : SReg P w0 T n id l k X R L σ B :=
  ⟨fun hT hm hd hB => .regionD hm ⟨gk kd, 0, none⟩ ord ho hd (runsL_perm ord ⟨fun i => gk kd (gk ord i), 0, none⟩ 0 (env L) σ (fun j => congrArg (gk kd) (by rw [Nat.zero_add, gk_eq])) rfl (fun i hi => by simpa using order_lt ho i hi) (Xr_ok hT _ _ _ _ _ hB (by rwa [xOrd_eq] at h)))⟩
theorem SReg.h (i : Nat) {b : Nat} {cs : List AV} (hi : nth B i = some (b, cs)) (ord kd : List Nat) (ho : orderOk l.toArray (gk kd) ord = true) (h : xOrd l ord fun l' => Xr P w0 T l ⟨fun i => gk kd (gk ord i), b, some cs⟩ k 0 l' L σ B) : SReg P w0 T n id l k X R L σ B :=
  ⟨fun hT hm hd hB => .regionD hm ⟨gk kd, b, some cs⟩ ord ho hd (runsL_perm ord ⟨fun i => gk kd (gk ord i), b, some cs⟩ 0 (env L) σ (fun j => congrArg (gk kd) (by rw [Nat.zero_add, gk_eq])) rfl (fun i hi => by simpa using order_lt ho i hi) (Xr_ok hT _ _ _ _ _ hB (by rwa [xOrd_eq] at h)))⟩
theorem SReg.t (rd : Nat) (ls : List Nat) (ho : orderOk l.toArray (kindOf rd ls l) (List.range l.length) = true) (h : Xr P w0 T l ⟨kindOf rd ls l, 0, none⟩ k 0 l L σ B) : SReg P w0 T n id l k X R L σ B :=
  ⟨fun hT hm hd hB => .regionD hm ⟨kindOf rd ls l, 0, none⟩ _ ho hd (by
    have := runsL_runs (P := P) (w0 := w0) (os := l) l [] (env L) σ (by simp) (Xr_ok hT _ _ _ _ _ hB h)
    show Runs P w0 l.toArray ⟨kindOf rd ls l, 0, none⟩ (QN k) _ _ _
    simpa [List.range_eq_range'] using this)⟩
theorem know_pop {b : Nat} {zs cs : List AV} (hn : σ.box b = none) (h : Know ((σ.setBox b zs).setBox b cs) ((b, cs) :: B)) : Know σ B := by
  rw [setBox_setBox] at h
  have nd := h.nd
  rw [List.map_cons, List.nodup_cons] at nd
  refine ⟨fun p hp => ?_, nd.2⟩
  have h1 := h.has p (List.mem_cons_of_mem _ hp)
  rwa [setBox_ne (fun e => nd.1 (List.mem_map.2 ⟨p, hp, e⟩))] at h1
theorem SReg.fz {b : Nat} {zs cs : List AV} (t : Nat) (hn : σ.box b = none) (hk : lk L t = .ptr b 0) (h1 : cs.all AV.one = true) (h : SReg P w0 T n id l k X R ((t, .vp (.agg cs)) :: L) σ B) : SReg P w0 T n id l k X R L ((σ.setBox b zs).setBox b cs) ((b, cs) :: B) :=
  ⟨fun hT hm hd hB => .freeze1 t (.agg cs) hn (by rw [← lk_eq]; exact hk) rfl h1 (h.go hT hm hd (know_pop hn hB))⟩
end
def Xc (P : Program) (w0 : Base) (T : TT) (n : Nat) : Code → (SL → St → BL → Prop) → (Nat → SL → St → BL → Prop) → (SL → St → BL → Prop) → SL → St → BL → Prop
  | .skip, k, X, R, L, σ, B => k L σ B
  | .label _, k, X, R, L, σ, B => k L σ B
  | .region _ ops false, k, X, R, L, σ, B => Xr P w0 T ops.toList ⟨fun _ => 2, 0, none⟩ k 0 ops.toList L σ B
  | .region id ops true, k, X, R, L, σ, B => SReg P w0 T n id ops.toList k X R L σ B
  | .seq a b, k, X, R, L, σ, B => Xc P w0 T n a (fun L σ B => Xc P w0 T n b k X R L σ B) X R L σ B
  | .cond c a b, k, X, R, L, σ, B => match ev L c with
    | .bool t => SIf P w0 T n t c a b k X R L σ B
    | _ => Stop (Know σ B → W P w0 n (.cond c a b) (QX k X R) (env L) σ)
  | .block id c, k, X, R, L, σ, B => Xc P w0 T n c k (fun j L σ B => bif Nat.beq j id then k L σ B else X j L σ B) R L σ B
  | .loop c, k, X, R, L, σ, B => SLoop P w0 T n c k X R L σ B
  | .exit j, k, X, R, L, σ, B => X j L σ B
  | .ret, k, X, R, L, σ, B => R L σ B
  | c, k, X, R, L, σ, B => Stop (Know σ B → W P w0 n c (QX k X R) (env L) σ)
theorem Xc_ok {P : Program} {w0 : Base} {T : TT} (hT : T.ok P) (hm : P.follows .mixedOrders = true) {n : Nat} : ∀ (c : Code) (k : SL → St → BL → Prop) (X : Nat → SL → St → BL → Prop) (R : SL → St → BL → Prop) (L : SL) (σ : St) (B : BL), codeOk n c = true → Know σ B → Xc P w0 T n c k X R L σ B → W P w0 n c (QX k X R) (env L) σ
  | .skip, k, X, R, L, σ, B, _, hB, h => .skip ⟨L, B, rfl, hB, h⟩
  | .label l, k, X, R, L, σ, B, _, hB, h => .label ⟨L, B, rfl, hB, h⟩
  | .region id ops false, k, X, R, L, σ, B, ho, hB, h => by
    have := W.regionL (id := id) (l := ops.toList) (ds := ops.toList.map (·.dst)) (Q := QX k X R) ho rfl (Xr_ok (P := P) (w0 := w0) hT _ _ _ _ _ hB h)
    simpa using this
  | .region id ops true, k, X, R, L, σ, B, ho, hB, h => by
    have h1 := SReg.go h hT hm (by rw [Array.toArray_toList]; exact ho) hB
    rwa [Array.toArray_toList] at h1
  | .seq a b, k, X, R, L, σ, B, ho, hB, h => by
    simp only [codeOk, Bool.and_eq_true] at ho
    refine .seq ((Xc_ok hT hm a _ X R L σ B ho.1 hB h).mono fun e E s q => ?_)
    cases e with
    | normal =>
      obtain ⟨L', B', rfl, hB', q⟩ := q
      exact Xc_ok hT hm b k X R L' s B' ho.2 hB' q
    | exit j => exact q
    | ret => exact q
    | goto l => exact q
    | panic c => exact q
    | outgrown => exact q
  | .cond c a b, k, X, R, L, σ, B, ho, hB, h => by
    simp only [codeOk, Bool.and_eq_true] at ho
    rw [Xc] at h
    split at h
    · rename_i t hc
      rw [ev_eq] at hc
      exact h.go hT ho.1 ho.2 hB hc
    · exact h.h hB
  | .block id c, k, X, R, L, σ, B, ho, hB, h => by
    refine .block ((Xc_ok hT hm c k _ R L σ B ho hB h).mono fun e E s q => ?_)
    cases e with
    | exit j =>
      obtain ⟨L', B', rfl, hB', q⟩ := q
      by_cases hj : j = id
      · subst hj
        rw [Nat.beq_refl] at q
        simp only [blockQ, if_true]
        exact ⟨L', B', rfl, hB', q⟩
      · have hb : Nat.beq j id = false := by
          cases hb : Nat.beq j id with
          | false => rfl
          | true => exact absurd (Nat.eq_of_beq_eq_true hb) hj
        rw [hb] at q
        simp only [blockQ, if_neg hj]
        exact ⟨L', B', rfl, hB', q⟩
    | normal => exact q
    | ret => exact q
    | goto l => exact q
    | panic c => exact q
    | outgrown => exact q
  | .loop c, k, X, R, L, σ, B, ho, hB, h => SLoop.go h hT ho hB
  | .exit j, k, X, R, L, σ, B, _, hB, h => .exit ⟨L, B, rfl, hB, h⟩
  | .ret, k, X, R, L, σ, B, _, hB, h => .ret ⟨L, B, rfl, hB, h⟩
  | .rangeFunc .., k, X, R, L, σ, B, _, hB, h => Stop.h h hB
  | .scope .., k, X, R, L, σ, B, _, hB, h => Stop.h h hB
  | .goto .., k, X, R, L, σ, B, _, hB, h => Stop.h h hB
  | .refuse .., k, X, R, L, σ, B, _, hB, h => Stop.h h hB
def fSL : SL → (SL → Prop) → Prop
  | [], k => k []
  | (t, x) :: l, k => fAV 4 x fun x' => fSL l fun l' => k ((t, x') :: l')
theorem fSL_eq : ∀ (l : SL) (k : SL → Prop), fSL l k = k l
  | [], k => rfl
  | (t, x) :: l, k => by rw [fSL, fAV_eq, fSL_eq l]
def fBL : BL → (BL → Prop) → Prop
  | [], k => k []
  | (b, cs) :: l, k => fBL l fun l' => k ((b, cs) :: l')
theorem fBL_eq : ∀ (l : BL) (k : BL → Prop), fBL l k = k l
  | [], k => rfl
  | (b, cs) :: l, k => by rw [fBL, fBL_eq l]
def xOpen (L : SL) (B : BL) (k : SL → BL → Prop) : Prop := fSL L fun L' => fBL B fun B' => k L' B'
theorem xOpen_eq (L : SL) (B : BL) (k : SL → BL → Prop) : xOpen L B k = k L B := by rw [xOpen, fSL_eq, fBL_eq]
theorem W.monoW {P : Program} {w0 : Base} {n : Nat} {c : Code} {Q Q' : Exit → AEnv → St → Prop} {E : AEnv} {σ : St} (h : W P w0 n c Q E σ) (hq : ∀ e E σ, Q e E σ → ∃ E', (∀ t, Weak (E' t) (E t)) ∧ Q' e E' σ) : W P w0 n c Q' E σ :=
  ⟨fun G w a hI hE hn ro hd => wpIn_mono (h.go G w a hI hE hn ro hd) fun e a' w' ⟨E', σ', G', q, h1, h2, h3⟩ => by
    obtain ⟨E2, hw, q2⟩ := hq _ _ _ q
    exact ⟨E2, σ', G', q2, h1, ⟨fun t => (hw t).go _ _ _ (h2.get t)⟩, h3⟩⟩
theorem SIf.y {P : Program} {w0 : Base} {T : TT} {n : Nat} {t : Bool} {c : Operand} {x y : Code} {k : SL → St → BL → Prop} {X : Nat → SL → St → BL → Prop} {R : SL → St → BL → Prop} {L : SL} {σ : St} {B : BL} (hm : P.follows .mixedOrders = true) (h : t = true) (q : Xc P w0 T n x k X R L σ B) : SIf P w0 T n t c x y k X R L σ B :=
  ⟨fun hT h1 h2 hB hc => .cond hc (fun _ => Xc_ok hT hm x k X R L σ B h1 hB q) (fun e => (by rw [h] at e; cases e))⟩
theorem SIf.n {P : Program} {w0 : Base} {T : TT} {n : Nat} {t : Bool} {c : Operand} {x y : Code} {k : SL → St → BL → Prop} {X : Nat → SL → St → BL → Prop} {R : SL → St → BL → Prop} {L : SL} {σ : St} {B : BL} (hm : P.follows .mixedOrders = true) (h : t = false) (q : Xc P w0 T n y k X R L σ B) : SIf P w0 T n t c x y k X R L σ B :=
  ⟨fun hT h1 h2 hB hc => .cond hc (fun e => (by rw [h] at e; cases e)) (fun _ => Xc_ok hT hm y k X R L σ B h2 hB q)⟩
theorem SIf.x {P : Program} {w0 : Base} {T : TT} {n : Nat} {t : Bool} {c : Operand} {x y : Code} {k : SL → St → BL → Prop} {X : Nat → SL → St → BL → Prop} {R : SL → St → BL → Prop} {L : SL} {σ : St} {B : BL} (hm : P.follows .mixedOrders = true) (q1 : t = true → Xc P w0 T n x k X R L σ B) (q2 : t = false → Xc P w0 T n y k X R L σ B) : SIf P w0 T n t c x y k X R L σ B :=
  ⟨fun hT h1 h2 hB hc => .cond hc (fun e => Xc_ok hT hm x k X R L σ B h1 hB (q1 e)) (fun e => Xc_ok hT hm y k X R L σ B h2 hB (q2 e))⟩
def xWeak : SL → SL → Prop
  | [], _ => True
  | (k, x) :: l, L => Weak x (lk L k) ∧ xWeak l L
theorem xWeak_has : ∀ {l L : SL}, xWeak l L → weakL l (env L)
  | [], L, h => trivial
  | (k, x) :: l, L, h => ⟨by rw [← lk_eq]; exact h.1, xWeak_has h.2⟩
structure At {α : Type} (inv : α → SL) (bx : α → BL) (p : α → St → Prop) (a : α) (L : SL) (σ : St) (B : BL) : Prop where
  weak : xWeak (inv a) L
  box : BSub (bx a) B
  p : p a σ
theorem SLoop.by {P : Program} {w0 : Base} {T : TT} {n : Nat} {c : Code} {k : SL → St → BL → Prop} {X : Nat → SL → St → BL → Prop} {R : SL → St → BL → Prop} {L : SL} {σ : St} {B : BL} {α : Type} (hm : P.follows .mixedOrders = true) (μ : α → Nat) (inv : α → SL) (bx : α → BL) (p : α → St → Prop) (a : α)
    (h0 : At inv bx p a L σ B) (round : ∀ a σ, p a σ → xOpen (inv a) (bx a) fun L B => Xc P w0 T n c (fun L1 σ1 B1 => ∃ a', μ a' < μ a ∧ At inv bx p a' L1 σ1 B1) X R L σ B) : SLoop P w0 T n c k X R L σ B := ⟨fun hT ho hB => by
  refine W.loop (fun m E s => ∃ a L B, m = μ a ∧ E = env L ∧ Know s B ∧ At inv bx p a L s B) (μ a) ⟨a, L, B, rfl, rfl, hB, h0⟩ ?_
  rintro m E s ⟨a, L, B, rfl, rfl, hB, h⟩
  refine W.has (Has.by (xWeak_has h.weak)) ?_
  refine (Xc_ok hT hm c _ X R (inv a) s (bx a) ho (hB.sub h.box) (by have := round a s h.p; rwa [xOpen_eq] at this)).mono fun e E' s' q => ?_
  cases e with
  | normal =>
    obtain ⟨L1, B1, rfl, hB1, a', hlt, h'⟩ := q
    exact ⟨μ a', hlt, a', L1, B1, rfl, rfl, hB1, h'⟩
  | exit j => exact q
  | ret => exact q
  | goto l => exact q
  | panic c => exact q
  | outgrown => exact q⟩
theorem SIf.meet {P : Program} {w0 : Base} {T : TT} {n : Nat} {t : Bool} {c : Operand} {x y : Code} {k : SL → St → BL → Prop} {X : Nat → SL → St → BL → Prop} {R : SL → St → BL → Prop} {L : SL} {σ : St} {B : BL} {α : Type} (hm : P.follows .mixedOrders = true) (inv : α → SL) (bx : α → BL) (p : α → St → Prop)
    (q1 : t = true → Xc P w0 T n x (fun L1 σ1 B1 => ∃ a, At inv bx p a L1 σ1 B1) X R L σ B) (q2 : t = false → Xc P w0 T n y (fun L1 σ1 B1 => ∃ a, At inv bx p a L1 σ1 B1) X R L σ B) (q : ∀ a σ, p a σ → xOpen (inv a) (bx a) fun L B => k L σ B) : SIf P w0 T n t c x y k X R L σ B :=
  ⟨fun hT h1 h2 hB hc => ((SIf.x (c := c) hm q1 q2).go hT h1 h2 hB hc).monoW fun e E s h => by
    cases e with
    | normal =>
      obtain ⟨L1, B1, rfl, hB1, a, h'⟩ := h
      exact ⟨env (inv a), (Has.by (xWeak_has h'.weak)).go, inv a, bx a, rfl, hB1.sub h'.box, by have := q a s h'.p; rwa [xOpen_eq] at this⟩
    | exit j => exact ⟨E, fun t => .refl _, h⟩
    | ret => exact ⟨E, fun t => .refl _, h⟩
    | goto l => exact ⟨E, fun t => .refl _, h⟩
    | panic c => exact ⟨E, fun t => .refl _, h⟩
    | outgrown => exact ⟨E, fun t => .refl _, h⟩⟩
def xRes (P : Program) (T : TT) : List ResultVar → SL → BL → (List AV → Prop) → Prop
  | [], L, B, k => k []
  | .tmp t :: rs, L, B, k => fAV 4 (lk L t) fun v => xRes P T rs L B fun vs => k (v :: vs)
  | .cell a t :: rs, L, B, k => match lk L a with
    | .ptr b off => SLoad P T t b off B False fun v => fAV 4 v fun v' => xRes P T rs L B fun vs => k (v' :: vs)
    | _ => False
theorem xRes_ok {P : Program} {T : TT} (hT : T.ok P) : ∀ (rs : List ResultVar) {L : SL} {σ : St} {B : BL} {k : List AV → Prop}, Know σ B → xRes P T rs L B k → ∃ xs, aResults P (env L) σ rs = some xs ∧ k xs
  | [], L, σ, B, k, hB, h => ⟨[], rfl, h⟩
  | .tmp t :: rs, L, σ, B, k, hB, h => by
    rw [xRes, fAV_eq] at h
    obtain ⟨xs, h1, h2⟩ := xRes_ok hT rs hB h
    exact ⟨_, by simp [aResults, aResult, h1, lk_eq]; rfl, by rw [lk_eq] at h2; exact h2⟩
  | .cell a t :: rs, L, σ, B, k, hB, h => by
    rw [xRes] at h
    split at h
    · rename_i b off hb
      rw [lk_eq] at hb
      rcases h.go hT with h | ⟨i, cs, r, h1, h2, h3⟩
      · exact h.elim
      · rw [fAV_eq] at h3
        obtain ⟨xs, h4, h5⟩ := xRes_ok hT rs hB h3
        exact ⟨r :: xs, by simp [aResults, aResult, hb, hB.get h1, h2, h4], h5⟩
    · exact h.elim
structure SFin (K : AV → St → Prop) (σ : St) (B : BL) (r : AV) : Prop where
  go : Know σ B → ∃ r' σ', Weak r' r ∧ St.Le σ' σ ∧ K r' σ'
theorem SFin.w {K : AV → St → Prop} {σ : St} {B : BL} {r : AV} (h : K r σ) : SFin K σ B r := ⟨fun _ => ⟨r, σ, .refl _, .refl _, h⟩⟩
theorem SFin.p {r0 : AV} {σ0 σ : St} {B : BL} {r : AV} (hl : St.Le σ0 σ) (hr : r0 = r) : SFin (fun r' s => r' = r0 ∧ s = σ0) σ B r := ⟨fun _ => ⟨r, σ0, .refl _, hl, hr.symm, rfl⟩⟩
theorem SFin.v {r0 : AV} {σ0 σ : St} {B : BL} {r : AV} (hl : St.Le σ0 σ) (hr : Weak r0 r) : SFin (fun r' s => r' = r0 ∧ s = σ0) σ B r := ⟨fun _ => ⟨r0, σ0, hr, hl, rfl, rfl⟩⟩
def xTup (l : List AV) (k : AV → Prop) : Prop :=
  match l with
  | [x] => k x
  | l => k (.tup l)
theorem xTup_eq (l : List AV) (k : AV → Prop) : xTup l k = k (aTuple l) := by
  match l with
  | [] => rfl
  | [x] => rfl
  | x :: y :: l => rfl
def xRet (P : Program) (T : TT) (rs : List ResultVar) (K : AV → St → Prop) (L : SL) (σ : St) (B : BL) : Prop :=
  xRes P T rs L B fun vs => xTup vs fun r => SFin K σ B r
theorem CallW.x {P : Program} {w0 : Base} {T : TT} {f : FuncId} {fn : Func} {c : Code} {m : Nat} {args : List AV} {σ : St} {B : BL} {K : AV → St → Prop} {rs : List ResultVar} (hT : T.ok P) (hm : P.follows .mixedOrders = true) (hf : P.funcs[f]? = some fn) (hb : fn.body = some c) (hn : fn.ntmps = m) (hr : fn.results.toList = rs) (ha : args.length ≤ m) (ho : codeOk m c = true) (hB : Know σ B)
    (h : xOpen (envArgs 0 args) B fun L B => Xc P w0 T m c (xRet P T rs K) (fun _ _ _ _ => False) (xRet P T rs K) L σ B) : CallW P w0 f args σ K := .body hf hb hn ha (by
  rw [args_env]
  rw [xOpen_eq] at h
  subst hr
  refine (Xc_ok hT hm c _ _ _ _ σ B ho hB h).mono fun e E s q => ?_
  have fin : ∀ {E s}, QN (xRet P T fn.results.toList K) E s → ∃ xs r σ', aResults P E s fn.results.toList = some xs ∧ Weak r (aTuple xs) ∧ St.Le σ' s ∧ K r σ' := by
    rintro E s ⟨L, B, rfl, hB, q⟩
    obtain ⟨xs, h1, h2⟩ := xRes_ok hT _ hB q
    rw [xTup_eq] at h2
    obtain ⟨r, σ', h3, h4, h5⟩ := h2.go hB
    exact ⟨xs, r, σ', h1, h3, h4, h5⟩
  cases e with
  | normal => exact ⟨.inl rfl, fin q⟩
  | ret => exact ⟨.inr rfl, fin q⟩
  | exit j => obtain ⟨_, _, _, _, q⟩ := q; exact q.elim
  | goto l => exact q.elim
  | panic c => exact q.elim
  | outgrown => exact q.elim)
theorem CallP.x {P : Program} {w0 : Base} {T : TT} {f : FuncId} {fn : Func} {c : Code} {m : Nat} {args : List AV} {r : AV} {rs : List ResultVar} (hT : T.ok P) (hm : P.follows .mixedOrders = true) (hf : P.funcs[f]? = some fn) (hb : fn.body = some c) (hn : fn.ntmps = m) (hr : fn.results.toList = rs) (ha : args.length ≤ m) (ho : codeOk m c = true)
    (h : ∀ σ, fSL (envArgs 0 args) fun L => Xc P w0 T m c (xRet P T rs fun r' s => r' = r ∧ s = σ) (fun _ _ _ _ => False) (xRet P T rs fun r' s => r' = r ∧ s = σ) L σ []) : CallP P w0 f args r := fun σ => .x hT hm hf hb hn hr ha ho (.nil σ) (by have := h σ; rw [fSL_eq] at this; rw [xOpen_eq]; exact this)
end Go.Al
end
section
set_option linter.unusedVariables false
namespace Go.Al
structure Hid (p : Prop) : Prop where
  go : p
theorem hid_eq (p : Prop) : Hid p = p := propext ⟨fun h => h.go, fun h => ⟨h⟩⟩
section
variable {P : Program} {w0 : Base} {T : TT} {n : Nat} {a b c : Code} {k : SL → St → BL → Prop} {X : Nat → SL → St → BL → Prop} {R : SL → St → BL → Prop} {L : SL} {σ : St} {B : BL}
theorem Xc_h (h : Hid (Xc P w0 T n c k X R L σ B)) : Xc P w0 T n c k X R L σ B := h.go
theorem Hid.seq (h : Hid (Xc P w0 T n a (fun L σ B => Hid (Xc P w0 T n b k X R L σ B)) X R L σ B)) : Hid (Xc P w0 T n (.seq a b) k X R L σ B) :=
  ⟨by have := h.go; simp only [hid_eq] at this; rw [Xc]; exact this⟩
theorem Hid.reg {id : Nat} {ops : Array Oper} (h : Xr P w0 T ops.toList ⟨fun _ => 2, 0, none⟩ k 0 ops.toList L σ B) : Hid (Xc P w0 T n (.region id ops false) k X R L σ B) := ⟨by rw [Xc]; exact h⟩
theorem Hid.regD {id : Nat} {ops : Array Oper} (h : SReg P w0 T n id ops.toList k X R L σ B) : Hid (Xc P w0 T n (.region id ops true) k X R L σ B) := ⟨by rw [Xc]; exact h⟩
theorem Hid.cond {t : Bool} {o : Operand} (e : ev L o = .bool t) (h : SIf P w0 T n t o a b k X R L σ B) : Hid (Xc P w0 T n (.cond o a b) k X R L σ B) := ⟨by rw [Xc, e]; exact h⟩
theorem Hid.block {id : Nat} (h : Hid (Xc P w0 T n c k (fun j L σ B => bif Nat.beq j id then k L σ B else X j L σ B) R L σ B)) : Hid (Xc P w0 T n (.block id c) k X R L σ B) := ⟨by rw [Xc]; exact h.go⟩
theorem Hid.loop (h : SLoop P w0 T n c k X R L σ B) : Hid (Xc P w0 T n (.loop c) k X R L σ B) := ⟨by rw [Xc]; exact h⟩
theorem Hid.exit {j : Nat} (h : X j L σ B) : Hid (Xc P w0 T n (.exit j) k X R L σ B) := ⟨by rw [Xc]; exact h⟩
theorem Hid.ret (h : R L σ B) : Hid (Xc P w0 T n .ret k X R L σ B) := ⟨by rw [Xc]; exact h⟩
theorem Hid.skip (h : k L σ B) : Hid (Xc P w0 T n .skip k X R L σ B) := ⟨by rw [Xc]; exact h⟩
theorem Hid.range {g : Operand} {ps : Array Tmp} (h : Stop (Know σ B → W P w0 n (.rangeFunc g ps a b) (QX k X R) (env L) σ)) : Hid (Xc P w0 T n (.rangeFunc g ps a b) k X R L σ B) := ⟨h⟩
theorem Hid.label {l : Nat} (h : k L σ B) : Hid (Xc P w0 T n (.label l) k X R L σ B) := ⟨by rw [Xc]; exact h⟩
end
theorem CallW.h {P : Program} {w0 : Base} {T : TT} {f : FuncId} {fn : Func} {c : Code} {m : Nat} {args : List AV} {σ : St} {B : BL} {K : AV → St → Prop} {rs : List ResultVar} (hT : T.ok P) (hm : P.follows .mixedOrders = true) (hf : P.funcs[f]? = some fn) (hb : fn.body = some c) (hn : fn.ntmps = m) (hr : fn.results.toList = rs) (ha : args.length ≤ m) (ho : codeOk m c = true) (hB : Know σ B)
    (h : xOpen (envArgs 0 args) B fun L B => Hid (Xc P w0 T m c (xRet P T rs K) (fun _ _ _ _ => False) (xRet P T rs K) L σ B)) : CallW P w0 f args σ K :=
  .x hT hm hf hb hn hr ha ho hB (by rw [xOpen_eq] at h ⊢; exact h.go)
theorem CallP.h {P : Program} {w0 : Base} {T : TT} {f : FuncId} {fn : Func} {c : Code} {m : Nat} {args : List AV} {r : AV} {rs : List ResultVar} (hT : T.ok P) (hm : P.follows .mixedOrders = true) (hf : P.funcs[f]? = some fn) (hb : fn.body = some c) (hn : fn.ntmps = m) (hr : fn.results.toList = rs) (ha : args.length ≤ m) (ho : codeOk m c = true)
    (h : ∀ σ, fSL (envArgs 0 args) fun L => Hid (Xc P w0 T m c (xRet P T rs fun r' s => r' = r ∧ s = σ) (fun _ _ _ _ => False) (xRet P T rs fun r' s => r' = r ∧ s = σ) L σ [])) : CallP P w0 f args r :=
  .x hT hm hf hb hn hr ha ho fun σ => by have := h σ; rw [fSL_eq] at this ⊢; exact this.go
end Go.Al
end
section
set_option linter.unusedVariables false
set_option linter.unusedSimpArgs false
namespace Go.Al
open Go.RowKit

def St.del (σ : St) (b : Nat) : St := { σ with box := fun j => if j = b then none else σ.box j }
theorem le_none {τ σ : St} {b : Nat} (h : St.Le τ σ) (hb : σ.box b = none) : τ.box b = none := by
  cases e : τ.box b with
  | none => rfl
  | some cs => rw [h.box b cs e] at hb; cases hb
theorem le_new {τ σ : St} {b : Nat} {cs : List AV} (h : St.Le τ σ) (hb : σ.box b = none) : St.Le τ (σ.setBox b cs) := le_setBox h (le_none h hb)
theorem le_new2 {τ σ : St} {b : Nat} {cs ds : List AV} (h : St.Le τ σ) (hb : σ.box b = none) : St.Le τ ((σ.setBox b cs).setBox b ds) := by rw [setBox_setBox]; exact le_new h hb
theorem Know.add {σ : St} {B : BL} (h : Know σ B) {b : Nat} {cs : List AV} (hb : σ.box b = some cs) (hn : b ∉ B.map (·.1)) : Know σ ((b, cs) :: B) := ⟨fun p hp => by
  rcases List.mem_cons.1 hp with rfl | hp
  · exact hb
  · exact h.has p hp, by rw [List.map_cons, List.nodup_cons]; exact ⟨hn, h.nd⟩⟩
end Go.Al
end
section
set_option linter.unusedVariables false
set_option linter.unusedSimpArgs false
namespace Go.Al
open Go.RowKit
end Go.Al
end
section
set_option linter.unusedVariables false
set_option linter.unusedSimpArgs false
namespace Go.Al
open Go.RowKit
theorem flat_len {sz : Nat} : ∀ {l : List AV}, (∀ x ∈ l, x.cells.length = sz) → (l.flatMap AV.cells).length = l.length * sz
  | [], _ => by simp
  | y :: l, h => by
    rw [List.flatMap_cons, List.length_append, flat_len (fun z hz => h z (by simp [hz])), h y (by simp), List.length_cons, Nat.succ_mul]; omega
theorem setL_app : ∀ (us A J : List AV), us.length ≤ J.length → setL (A ++ J) A.length us = A ++ us ++ J.drop us.length
  | [], A, J, _ => by simp [setL]
  | u :: us, A, [], h => by simp at h
  | u :: us, A, j :: J, h => by
    rw [setL]
    have e : (A ++ j :: J).set A.length u = (A ++ [u]) ++ J := by simp
    have e2 : A.length + 1 = (A ++ [u]).length := by simp
    rw [e, e2, setL_app us (A ++ [u]) J (by simpa using h)]; simp
inductive RowV (σ : St) (sz : Nat) (xs : List AV) : AV → Option Nat → Prop
  | nil (h : xs = []) : RowV σ sz xs .nils none
  | own (b cap : Nat) (junk : List AV) (hb : σ.box b = some (xs.flatMap AV.cells ++ junk)) (hc : xs.length ≤ cap) (hl : cap * sz ≤ (xs.flatMap AV.cells ++ junk).length) : RowV σ sz xs (.msl b 0 xs.length cap) (some b)
theorem RowV.keep {σ s : St} {sz : Nat} {xs : List AV} {v : AV} {r : Option Nat} (h : RowV σ sz xs v r) (k : ∀ b cs, r = some b → σ.box b = some cs → s.box b = some cs) : RowV s sz xs v r := by
  cases h with
  | nil h => exact .nil h
  | own b cap junk hb hc hl => exact .own b cap junk (k b _ rfl hb) hc hl
theorem RowV.set {σ : St} {sz : Nat} {xs : List AV} {v : AV} {r : Option Nat} (h : RowV σ sz xs v r) {c : Nat} {ds : List AV} (hne : r ≠ some c) : RowV (σ.setBox c ds) sz xs v r :=
  h.keep fun b cs e hb => by rw [setBox_ne (fun e2 => hne (by rw [e, e2]))]; exact hb
theorem RowV.has {σ : St} {sz : Nat} {xs : List AV} {v : AV} {b : Nat} (h : RowV σ sz xs v (some b)) : σ.box b ≠ none := by
  cases h with
  | own b cap junk hb hc hl => rw [hb]; simp
section
variable {P : Program} {w0 : Base} {a b sz bytes : TypeId} {u v : AV} {σ : St} {B : BL} {K : AV → St → BL → Prop}
theorem SApp.row {xs : List AV} {y : AV} {r : Option Nat} {n' : Nat} (hn' : xs.length + 1 = n') (hu : RowV σ sz xs u r) (hy : aSrc sz v = some [y]) [hi : AppI P a b sz bytes] (hsz : ∀ x ∈ xs, x.cells.length = sz) (hys : y.cells.length = sz) (hf : (xs.length + 1) * bytes ≤ 140737488355328) (hB : ∀ p ∈ B, r ≠ some p.1)
    (k : ∀ b' cap' σ', RowV σ' sz (xs ++ [y]) (.msl b' 0 n' cap') (some b') → (r = some b' ∨ σ.box b' = none) → (∀ i cs, r ≠ some i → σ.box i = some cs → σ'.box i = some cs) → (σ'.tok = σ.tok ∧ σ'.obj = σ.obj) → K (.msl b' 0 n' cap') σ' B) : SApp P w0 a b u v σ B K := ⟨fun hBk o E s x ho hs hx => by
  subst hn'
  have e1 : (xs ++ [y]).flatMap AV.cells = xs.flatMap AV.cells ++ y.cells := by simp
  have e0 : ([y] : List AV).flatMap AV.cells = y.cells := by simp
  have el : (xs ++ [y]).length = xs.length + 1 := by simp
  have hk0 : ∀ (σ' : St), (∀ i cs, r ≠ some i → σ.box i = some cs → σ'.box i = some cs) → Know σ' B := fun σ' h => ⟨fun p hp => h _ _ (hB p hp) (hBk.has p hp), hBk.nd⟩
  cases hu with
  | nil h =>
    subst h
    refine (SApp.n (P := P) (w0 := w0) (a := a) (b := b) (u := .nils) (v := v) (σ := σ) (B := B) (K := fun r s _ => ∃ B', Know s B' ∧ K r s B') rfl hy (by simp) (by simpa using hf) fun b' cap h1 h2 => ?_).go hBk o E s x ho hs hx |>.mono fun r s ⟨_, _, h⟩ => h
    have h2' : 1 ≤ cap := by simpa using h2
    refine ⟨B, hk0 _ fun i cs _ hi => ?_, k b' cap _ (.own b' cap (List.replicate ((cap - 1) * sz) .und) ?_ (by simpa using h2') ?_) (.inr h1) (fun i cs _ hi => ?_) ⟨rfl, rfl⟩⟩
    · rw [setBox_ne (by rintro rfl; rw [h1] at hi; cases hi)]; exact hi
    · simp only [List.nil_append, List.length_singleton]; exact setBox_same
    · rw [e1, List.length_append, List.length_append, List.length_replicate, hys]
      obtain ⟨c, rfl⟩ : ∃ c, cap = c + 1 := ⟨cap - 1, by omega⟩
      simp [Nat.succ_mul]; omega
    · rw [setBox_ne (by rintro rfl; rw [h1] at hi; cases hi)]; exact hi
  | own b0 cap junk hb hc hl =>
    have hfl := flat_len hsz
    have hjl : (xs.flatMap AV.cells ++ junk).length = xs.length * sz + junk.length := by rw [List.length_append, hfl]
    obtain ⟨e, inf, z, T, rfl, rfl, hpos⟩ := hi.h
    subst hx
    have hfit : AppFits inf (xs.length + [y].length) := ⟨by simpa using hf, by
      have : xs.length + 1 ≤ (xs.length + 1) * inf.bytes := Nat.le_mul_of_pos_right _ hpos
      simp only [maxLen, List.length_singleton]; omega⟩
    refine w_appendM T s x ho hs hb hl hc hy hfit (fun h => ?_) fun b' cap' h1 h2 => ?_
    · have h' : xs.length + 1 ≤ cap := by simpa using h
      have hmul : (xs.length + 1) * inf.size ≤ cap * inf.size := Nat.mul_le_mul_right _ h'
      rw [Nat.succ_mul] at hmul
      have hs' : setL (xs.flatMap AV.cells ++ junk) (xs.length * inf.size) ([y].flatMap AV.cells) = (xs ++ [y]).flatMap AV.cells ++ junk.drop y.cells.length := by
        rw [← hfl, e0, setL_app _ _ _ (by omega), e1]
      rw [hs']
      refine ⟨B, hk0 _ fun i cs hi h0 => ?_, k b0 cap _ ?_ (.inl rfl) (fun i cs hi h0 => ?_) ⟨rfl, rfl⟩⟩
      · rw [setBox_ne (fun e => hi (by rw [e]))]; exact h0
      · have := RowV.own (σ := σ.setBox b0 ((xs ++ [y]).flatMap AV.cells ++ junk.drop y.cells.length)) (sz := inf.size) (xs := xs ++ [y]) b0 cap (junk.drop y.cells.length) setBox_same (by rw [el]; exact h') (by
          rw [e1, List.length_append, List.length_append, List.length_drop, hfl]; omega)
        rwa [el] at this
      · rw [setBox_ne (fun e => hi (by rw [e]))]; exact h0
    · have h2' : xs.length + 1 ≤ cap' := by simpa using h2
      have ht : (xs.flatMap AV.cells ++ junk).take (xs.length * inf.size) = xs.flatMap AV.cells := by rw [← hfl, List.take_left']; rfl
      rw [ht, e0, ← e1]
      refine ⟨B, hk0 _ fun i cs hi h0 => ?_, k b' cap' _ ?_ (.inr h1) (fun i cs hi h0 => ?_) ⟨rfl, rfl⟩⟩
      · rw [setBox_ne (by rintro rfl; rw [h1] at h0; cases h0)]; exact h0
      · have := RowV.own (σ := σ.setBox b' ((xs ++ [y]).flatMap AV.cells ++ List.replicate ((cap' - (xs.length + [y].length)) * inf.size) .und)) (sz := inf.size) (xs := xs ++ [y]) b' cap' _ setBox_same (by rw [el]; exact h2') (by
          rw [e1, List.length_append, List.length_append, List.length_replicate, hfl, hys, List.length_singleton]
          obtain ⟨c, rfl⟩ : ∃ c, cap' = xs.length + 1 + c := ⟨cap' - (xs.length + 1), by omega⟩
          rw [Nat.add_sub_cancel_left, Nat.add_mul, Nat.succ_mul]; omega)
        rwa [el] at this
      · rw [setBox_ne (by rintro rfl; rw [h1] at h0; cases h0)]; exact h0⟩
end
end Go.Al
end
section
set_option linter.unusedVariables false
set_option linter.unusedSimpArgs false
namespace Go.Al
open Go.RowKit
section
variable {P : Program} {w0 : Base} {ops : Array Oper} {kd : Kd}
theorem runs_cons {Q Q' : AEnv → St → Prop} (j : Nat) {l l' : List Nat} (hl : ∀ E σ, Runs P w0 ops kd Q l E σ → Runs P w0 ops kd Q' l' E σ) {E : AEnv} {σ : St} (h : Runs P w0 ops kd Q (j :: l) E σ) : Runs P w0 ops kd Q' (j :: l') E σ := by
  unfold Runs at h ⊢
  split
  · rename_i hn
    simp only [hn] at h
    exact hl _ _ h
  · rename_i o ho
    simp only [ho] at h
    split
    · rename_i hw
      rw [hw] at h
      exact h.mono fun r s h => hl _ _ h
    · rename_i hw
      rw [hw] at h
      exact hl _ _ h
    · rename_i hw
      rw [hw] at h
      exact h
theorem runs_app {Q Q' : AEnv → St → Prop} {post : List Nat} (hq : ∀ E σ, Q' E σ → Runs P w0 ops kd Q post E σ) : ∀ (pre : List Nat) {E : AEnv} {σ : St}, Runs P w0 ops kd Q' pre E σ → Runs P w0 ops kd Q (pre ++ post) E σ
  | [], E, σ, h => hq E σ h
  | j :: pre, E, σ, h => runs_cons j (fun _ _ h => runs_app hq pre h) h
theorem runs_front {Q : AEnv → St → Prop} {i : Nat} {post : List Nat} : ∀ (pre : List Nat) {E : AEnv} {σ : St}, (∀ j ∈ pre, swapB ops kd.k j i = true) → Runs P w0 ops kd Q (pre ++ i :: post) E σ → Runs P w0 ops kd Q (i :: (pre ++ post)) E σ
  | [], E, σ, _, h => h
  | j :: pre, E, σ, hs, h => runs_swap (hs j (by simp)) (runs_cons j (fun _ _ h => runs_front pre (fun k hk => hs k (by simp [hk])) h) h)
theorem Left.noWait {kind : Nat → Nat} {listed : Array Bool} {r : List Nat} (h : Left ops kind listed r) {i j : Nat} (hi : i ∈ Region.ready .any ops listed) (hj : j ∈ r) : ¬ Waits ops i j := fun hw => by
  obtain ⟨hlt, hun, hpre⟩ := ready_mem.1 hi
  have h1 := h.waits hw (.inr hpre)
  have hjlt := h.lt j hj
  have h2 := (h.unl j hjlt).2 hj
  rw [getD_ft (by rw [h.size]; exact hjlt), h1] at h2
  cases h2
theorem Left.pws {kind kind' : Nat → Nat} {listed : Array Bool} {r : List Nat} (h : Left ops kind listed r) (hp : r.Pairwise fun j i => Waits ops i j ∨ swapB ops kind' j i = true) : Left ops kind' listed r := ⟨h.size, h.lt, h.unl, h.nodup, hp, h.lin, h.closed⟩
theorem any_sound2 {n : Nat} (hd : dstsOk n ops = true) {Q : AEnv → St → Prop} {k1 k2 : Nat → Nat} {p q : Nat} {post : List Nat} (hw : ∀ i ∈ post, Waits ops i p) :
    ∀ (fuel : Nat) (listed : Array Bool) (pre : List Nat) (E : AEnv) (σ : St), Left ops k1 listed (pre ++ p :: q :: post) → Left ops k2 listed (pre ++ q :: p :: post) → (pre ++ p :: post).Pairwise (fun j i => Waits ops i j ∨ swapB ops kd.k j i = true) → (pre ++ q :: post).Pairwise (fun j i => Waits ops i j ∨ swapB ops kd.k j i = true) → pre.length = fuel →
      Runs P w0 ops kd (fun E σ => Runs P w0 ops kd Q (p :: q :: post) E σ ∧ Runs P w0 ops kd Q (q :: p :: post) E σ) pre E σ → ∀ {G : Gh} {w : World} {a : Act}, Inv w0 G σ w → RelE G w E a → a.tmps.size = n →
      ∀ {Qx : Exit → Act → World → Prop}, (∀ E' σ' G' w' a', Q E' σ' → Inv w0 G' σ' w' → RelE G' w' E' a' → a'.tmps.size = n → a'.defers = a.defers → Ext G w G' w' → Qx .normal a' w') → ∀ ro, wpAnyIn (wideAt ro) 0 P .any ops Qx (fuel + 2 + post.length) listed a w := by
  intro fuel
  induction fuel with
  | zero =>
    intro listed pre E σ h1 h2 p1 p2 hlen hr G w a hI hE hn Qx hk ro
    have : pre = [] := List.eq_nil_of_length_eq_zero hlen
    subst this
    rw [show 0 + 2 + post.length = (1 + post.length) + 1 by omega]
    refine ⟨fun hnil => ?_, fun i hi => ?_⟩
    · exfalso
      have hlt := h1.lt p (by simp)
      have hun := (h1.unl p hlt).2 (by simp)
      have : p ∈ Region.ready .any ops listed := ready_mem.2 ⟨hlt, hun, fun j hdj => by
        rcases h1.lin [] p (q :: post) rfl j hdj with h | h
        · exact h
        · simp at h⟩
      rw [hnil] at this
      simp at this
    · obtain ⟨hlt, hun, _⟩ := ready_mem.1 hi
      have hmem := (h1.unl i hlt).1 hun
      simp only [List.nil_append, List.mem_cons] at hmem
      rcases hmem with rfl | rfl | hmem
      · refine step_run hd hr.1 hI hE hn (fun E' σ' G' w' a' hr2 hI' hE' hn' hdf e => ?_) ro
        refine any_sound hd _ _ (q :: post) E' σ' ((Left.step (pre := []) h1 hi).pws p2) (by simp; omega) hr2 hI' hE' hn' (fun E2 σ2 G2 w2 a2 qq hI2 hE2 hn2 hd2 e2 => ?_) ro
        exact hk E2 σ2 G2 w2 a2 qq hI2 hE2 hn2 (hd2.trans hdf) (e.trans e2)
      · refine step_run hd hr.2 hI hE hn (fun E' σ' G' w' a' hr2 hI' hE' hn' hdf e => ?_) ro
        refine any_sound hd _ _ (p :: post) E' σ' ((Left.step (pre := []) h2 hi).pws p1) (by simp; omega) hr2 hI' hE' hn' (fun E2 σ2 G2 w2 a2 qq hI2 hE2 hn2 hd2 e2 => ?_) ro
        exact hk E2 σ2 G2 w2 a2 qq hI2 hE2 hn2 (hd2.trans hdf) (e.trans e2)
      · exact absurd (hw i hmem) (h1.noWait hi (by simp))
  | succ fuel ih =>
    intro listed pre E σ h1 h2 p1 p2 hlen hr G w a hI hE hn Qx hk ro
    rw [show fuel + 1 + 2 + post.length = (fuel + 2 + post.length) + 1 by omega]
    refine ⟨fun hnil => ?_, fun i hi => ?_⟩
    · exfalso
      cases pre with
      | nil => simp at hlen
      | cons i pre =>
        have hlt := h1.lt i (by simp)
        have hun := (h1.unl i hlt).2 (by simp)
        have : i ∈ Region.ready .any ops listed := ready_mem.2 ⟨hlt, hun, fun j hdj => by
          rcases h1.lin [] i _ rfl j hdj with h | h
          · exact h
          · simp at h⟩
        rw [hnil] at this
        simp at this
    · obtain ⟨hlt, hun, _⟩ := ready_mem.1 hi
      have hmem := (h1.unl i hlt).1 hun
      simp only [List.mem_append, List.mem_cons] at hmem
      rcases hmem with hmem | rfl | rfl | hmem
      · obtain ⟨as, bs, rfl⟩ := List.append_of_mem hmem
        have e1 : ∀ r, (as ++ i :: bs) ++ r = as ++ i :: (bs ++ r) := fun r => by simp
        have e2 : ∀ r : List Nat, as ++ (bs ++ r) = (as ++ bs) ++ r := fun r => by simp
        rw [e1] at h1 h2 p1 p2
        have hsw : ∀ j ∈ as, swapB ops kd.k j i = true := fun j hj => by
          rcases (List.pairwise_append.1 p1).2.2 j hj i (by simp) with h | h
          · exact absurd h (h1.noWait hi (by simp [hj]))
          · exact h
        have hr' := runs_front as hsw hr
        have s1 := h1.step hi
        have s2 := h2.step hi
        rw [e2] at s1 s2
        have sub : ∀ r : List Nat, ((as ++ bs) ++ r).Sublist (as ++ i :: (bs ++ r)) := fun r => by rw [← e2]; simp
        refine step_run hd hr' hI hE hn (fun E' σ' G' w' a' hr2 hI' hE' hn' hdf e => ?_) ro
        refine ih _ (as ++ bs) E' σ' s1 s2 (p1.sublist (sub _)) (p2.sublist (sub _)) (by simp at hlen ⊢; omega) hr2 hI' hE' hn' (fun E2 σ2 G2 w2 a2 qq hI2 hE2 hn2 hd2 e2 => ?_) ro
        exact hk E2 σ2 G2 w2 a2 qq hI2 hE2 hn2 (hd2.trans hdf) (e.trans e2)
      · have hsw : ∀ j ∈ pre, swapB ops kd.k j i = true := fun j hj => by
          rcases (List.pairwise_append.1 p1).2.2 j hj i (by simp) with h | h
          · exact absurd h (h1.noWait hi (by simp [hj]))
          · exact h
        have hr' := runs_front (post := q :: post) pre hsw (runs_app (fun _ _ h => h.1) pre hr)
        refine step_run hd hr' hI hE hn (fun E' σ' G' w' a' hr2 hI' hE' hn' hdf e => ?_) ro
        refine any_sound hd _ _ (pre ++ q :: post) E' σ' ((h1.step hi).pws p2) (by simp at hlen ⊢; omega) hr2 hI' hE' hn' (fun E2 σ2 G2 w2 a2 qq hI2 hE2 hn2 hd2 e2 => ?_) ro
        exact hk E2 σ2 G2 w2 a2 qq hI2 hE2 hn2 (hd2.trans hdf) (e.trans e2)
      · have hsw : ∀ j ∈ pre, swapB ops kd.k j i = true := fun j hj => by
          rcases (List.pairwise_append.1 p2).2.2 j hj i (by simp) with h | h
          · exact absurd h (h1.noWait hi (by simp [hj]))
          · exact h
        have hr' := runs_front (post := p :: post) pre hsw (runs_app (fun _ _ h => h.2) pre hr)
        refine step_run hd hr' hI hE hn (fun E' σ' G' w' a' hr2 hI' hE' hn' hdf e => ?_) ro
        refine any_sound hd _ _ (pre ++ p :: post) E' σ' ((h2.step hi).pws p1) (by simp at hlen ⊢; omega) hr2 hI' hE' hn' (fun E2 σ2 G2 w2 a2 qq hI2 hE2 hn2 hd2 e2 => ?_) ro
        exact hk E2 σ2 G2 w2 a2 qq hI2 hE2 hn2 (hd2.trans hdf) (e.trans e2)
      · exact absurd (hw i hmem) (h1.noWait hi (by simp))
def orderOk2 (ops : Array Oper) (kind : Nat → Nat) (pre : List Nat) (p q : Nat) (post : List Nat) : Bool :=
  orderOk ops (fun _ => 0) (pre ++ p :: q :: post) && orderOk ops (fun _ => 0) (pre ++ q :: p :: post) && pairsOk ops kind (masks ops.toList []) (pre ++ p :: post) && pairsOk ops kind (masks ops.toList []) (pre ++ q :: post) && post.all fun i => ((masks ops.toList []).getD i 0).testBit p
theorem W.regionD2 {n id : Nat} {Q : Exit → AEnv → St → Prop} {E : AEnv} {σ : St} (hm : P.follows .mixedOrders = true) (kind : Kd) (pre : List Nat) (p q : Nat) (post : List Nat) (ho : orderOk2 ops kind.k pre p q post = true) (hd : dstsOk n ops = true)
    (h : Runs P w0 ops kind (fun E σ => Runs P w0 ops kind (fun E σ => Q .normal E σ) (p :: q :: post) E σ ∧ Runs P w0 ops kind (fun E σ => Q .normal E σ) (q :: p :: post) E σ) pre E σ) : W P w0 n (.region id ops true) Q E σ := ⟨fun G w a hI hE hn ro hdf => by
  simp only [orderOk2, Bool.and_eq_true, List.all_eq_true] at ho
  obtain ⟨⟨⟨⟨o1, o2⟩, o3⟩, o4⟩, o5⟩ := ho
  obtain ⟨l1, hlen⟩ := order_left o1
  obtain ⟨l2, _⟩ := order_left o2
  have hw := masks_spec (ops := ops) ops.toList [] [] (by simp) rfl (fun i j h => by simp at h)
  have hA : Alike0 w { w with drawn := w.drawn + 1 } := ⟨rfl, rfl, rfl, rfl⟩
  have hz : ops.size = pre.length + 2 + post.length := by rw [← hlen]; simp; omega
  refine wpIn_region_any hm ?_
  rw [hz]
  rw [hz] at l1 l2
  exact any_sound2 hd (fun i hi => hw _ _ (o5 i hi)) _ _ pre E σ l1 l2 ((pairs_pw o3).imp fun h => h.imp (hw _ _) fun h => h) ((pairs_pw o4).imp fun h => h.imp (hw _ _) fun h => h) rfl h (hA.inv hI) (hE.ext hA.ext) hn (fun E' σ' G' w' a' q r1 r2 r3 r4 r5 => ⟨E', σ', G', q, r1, r2, r3, hdf.to r4 (hA.ext.trans r5), hA.ext.trans r5⟩) ro⟩
end
theorem runsL_mono {P : Program} {w0 : Base} {ds : List (Option Tmp)} {kind : Kd} {Q Q' : AEnv → St → Prop} (hq : ∀ E σ, Q E σ → Q' E σ) : ∀ {l : List Oper} {i : Nat} {E : AEnv} {σ : St}, RunsL P w0 ds kind Q i l E σ → RunsL P w0 ds kind Q' i l E σ
  | [], i, E, σ, h => hq E σ h
  | o :: l, i, E, σ, h => by
    unfold RunsL at h ⊢
    split
    · rename_i hw
      rw [hw] at h
      exact h.mono fun r s h => runsL_mono hq h
    · rename_i hw
      rw [hw] at h
      exact runsL_mono hq h
    · rename_i hw
      rw [hw] at h
      exact h
section
variable {P : Program} {w0 : Base} {T : TT} {n id : Nat} {l : List Oper} {k : SL → St → BL → Prop} {X : Nat → SL → St → BL → Prop} {R : SL → St → BL → Prop} {L : SL} {σ : St} {B : BL}
theorem SReg.two (pre : List Nat) (p q : Nat) (post kd : List Nat) (ho : orderOk2 l.toArray (gk kd) pre p q post = true)
    (h : xOrd l pre fun l0 => xOrd l (p :: q :: post) fun l1 => xOrd l (q :: p :: post) fun l2 =>
      Xr P w0 T l ⟨fun i => gk kd (gk pre i), 0, none⟩ (fun L σ B => Xr P w0 T l ⟨fun i => gk kd (gk (p :: q :: post) i), 0, none⟩ k 0 l1 L σ B ∧ Xr P w0 T l ⟨fun i => gk kd (gk (q :: p :: post) i), 0, none⟩ k 0 l2 L σ B) 0 l0 L σ B) : SReg P w0 T n id l k X R L σ B :=
  ⟨fun hT hm hd hB => by
    rw [xOrd_eq, xOrd_eq, xOrd_eq] at h
    have hlt : ∀ i ∈ pre ++ p :: q :: post, i < l.length := by
      simp only [orderOk2, Bool.and_eq_true] at ho
      intro i hi
      simpa using order_lt ho.1.1.1.1 i hi
    have go : ∀ (ord : List Nat) (Q : AEnv → St → Prop) (E : AEnv) (σ : St), (∀ i ∈ ord, i < l.length) → RunsL P w0 (l.map (·.dst)) ⟨fun i => gk kd (gk ord i), 0, none⟩ Q 0 (ord.filterMap fun i => l[i]?) E σ → Runs P w0 l.toArray ⟨gk kd, 0, none⟩ Q ord E σ := fun ord Q E σ hl h =>
      runsL_perm ord ⟨fun i => gk kd (gk ord i), 0, none⟩ 0 E σ (fun j => congrArg (gk kd) (by rw [Nat.zero_add, gk_eq])) rfl hl h
    refine W.regionD2 hm ⟨gk kd, 0, none⟩ pre p q post ho hd (go pre _ _ _ (fun i hi => hlt i (by simp [hi])) ?_)
    have hx := Xr_ok (P := P) (w0 := w0) hT _ _ _ _ _ hB h
    refine runsL_mono (fun E σ q => ?_) hx
    obtain ⟨L', B', rfl, hB', q1, q2⟩ := q
    exact ⟨go _ _ _ _ (fun i hi => hlt i (List.mem_append_right _ hi)) (Xr_ok hT _ _ _ _ _ hB' q1), go _ _ _ _ (fun i hi => hlt i (by simp at hi ⊢; rcases hi with h | h | h <;> simp [h])) (Xr_ok hT _ _ _ _ _ hB' q2)⟩⟩
end
theorem SLoop.fz {P : Program} {w0 : Base} {T : TT} {n : Nat} {c : Code} {k : SL → St → BL → Prop} {X : Nat → SL → St → BL → Prop} {R : SL → St → BL → Prop} {L : SL} {σ : St} {B : BL} (t i : Nat) {b : Nat} {cs : List AV} (σ' : St) (B' : BL) (hi : nth B i = some (b, cs)) (hl : St.Le σ' σ) (hn : σ'.box b = none) (hK : Know σ' B') (hk : lk L t = .ptr b 0) (h1 : cs.all AV.one = true) (h : SLoop P w0 T n c k X R ((t, .vp (.agg cs)) :: L) σ' B') : SLoop P w0 T n c k X R L σ B :=
  ⟨fun hT ho hB => W.freeze t (.agg cs) (hB.get hi) (by rw [← lk_eq]; exact hk) rfl (fun c hc => List.all_eq_true.1 h1 c hc) hl hn (h.go hT ho hK)⟩
end Go.Al
end
section
set_option linter.unusedVariables false
set_option linter.unusedSimpArgs false
namespace Go.Al
open Go.RowKit
def jumpOf : Exit → Option Code
  | .ret => some .ret
  | .exit j => some (.exit j)
  | _ => none
theorem setObj_other {σ : St} {l i : Nat} {q : Option Ob} (h : i ≠ l) : (σ.setObj l q).obj i = σ.obj i := by simp [St.setObj, h]
theorem setObj_same {σ : St} {l : Nat} {q : Option Ob} : (σ.setObj l q).obj l = q := by simp [St.setObj]
theorem setObj_setObj {σ : St} {l : Nat} {q r : Option Ob} : (σ.setObj l q).setObj l r = σ.setObj l r := by
  simp only [St.setObj]; congr 1; funext j; split <;> rfl
structure Round (P : Program) (w0 : Base) (n : Nat) (F FO : List Nat) (N : St → Prop) (D : Exit → St → Prop) (σ0 : St) (body : Code) (s : St) (e : Exit) (E1 : AEnv) (s1 : St) : Prop where
  e : e = .normal
  o : s1.obj = s.obj
  k : Kp F FO s s1
  b : ∀ l q, σ0.obj l = none → W P w0 n body (fun e _ s2 => Kp F FO (s1.setObj l q) s2 ∧ match e with | .normal => N s2 | .ret => D .ret s2 | .exit j => D (.exit j) s2 | _ => False) E1 (s1.setObj l q)
theorem Inv.entered {w0 : Base} {G : Gh} {σ : St} {w w' : World} {r : Loop} {E : AEnv} (hI : Inv w0 G σ w) (hE : ∀ t, Rel G w (E t) (r.tmps.getD t undef)) : Inv w0 G (σ.setObj w.heap.size (some (.loop r E))) (w.alloc (.loop r)) ∧ Ext G w G (w.alloc (.loop r)) :=
  hI.newOb fun w' ex hw => .loop hI.size hw fun t => (hE t).ext ex
theorem W.rangeFuncO {P : Program} {w0 : Base} {n : Nat} {g : Operand} {ps : Array Tmp} {assign body : Code} {Q : Exit → AEnv → St → Prop} {E : AEnv} {σ : St} {f : FuncId} {first cap : List AV} {xss : List (List AV)} (hg : aeval E g = .fn (.func f) first cap) (hf : Own P f)
    (hps : ∀ t ∈ ps.toList, t < n) (hlen : ∀ xs ∈ xss, ps.size = xs.length) {own : List (Nat × List AV)} (hit : IterO P w0 f first cap xss own) (F FO : List Nat) (I : Nat → St → Prop) (D : Exit → St → Prop) (hU : ∀ k, Free σ (I k)) (hUD : ∀ e, Free σ (D e))
    (hF : ∀ k s, I k s → ∀ i ∈ F, s.box i ≠ none) (hFD : ∀ e s, D e s → ∀ i ∈ F, s.box i ≠ none) (hFO : ∀ i ∈ FO, σ.obj i ≠ none) (hI' : ∀ k s, I k s → ∀ i ∈ FO, s.obj i ≠ none) (hD' : ∀ e s, D e s → ∀ i ∈ FO, s.obj i ≠ none) (h0 : I 0 σ)
    (hO1 : ∀ p ∈ own, σ.box p.1 = some p.2 ∧ p.1 ∉ F) (hO2 : ∀ k s p cs, p ∈ own → I k s → I k (s.setBox p.1 cs)) (hO3 : ∀ e s p cs, p ∈ own → D e s → D e (s.setBox p.1 cs))
    (round : ∀ k xs s, xss[k]? = some xs → I k s → W P w0 n assign (Round P w0 n F FO (I (k + 1)) D σ body s) (updL E ps.toList xs) s)
    (done : ∀ s, I xss.length s → Q .normal E s) (left : ∀ e s, D e s → (jumpOf e).isSome = true → Q e E s) : W P w0 n (.rangeFunc g ps assign body) Q E σ := ⟨fun G w a hI hE hn ro hd => by
  refine wpIn_rangeFunc fun fn _ => ?_
  have hgr := aeval_rel hE g
  rw [hg] at hgr
  generalize hgv : a.eval g = gv at hgr
  cases hgr with
  | fn hv1 hv2 =>
    rename_i vs us
    -- entering
    have hent : ∃ (l : Nat) (mark : List Deferred) (w1 : World) (rec : Loop), (Instr.enterLoop fn a.tmps ps assign body (wideAt ro).round).run P w = .ok (l, mark) w1 ∧ rec.state = .ready ∧ rec.pending = none ∧ rec.tmps = a.tmps ∧ rec.params = ps ∧ rec.assign = assign ∧ rec.body = body ∧
        Inv w0 G (σ.setObj l (some (.loop rec E))) w1 ∧ Ext G w G w1 ∧ σ.obj l = none ∧ Fr ro w1 (mark ++ a.defers) := by
      obtain ⟨rl, rlo⟩ := ro
      cases rl with
      | none =>
        have g1 := grows_plain G w (.deferred (some []))
        have hI1 := g1.inv hI
        have hr := run_enterLoop_outer (P := P) (w := w) fn a.tmps ps assign body
        obtain ⟨hI2, ex2⟩ := hI1.entered (w' := w) (E := E) (r := { state := .ready, pending := none, fn, tmps := a.tmps, params := ps, assign, body, defers := w.heap.size }) fun t => (hE.get t).ext g1.ext
        have hs : ({ w with heap := w.heap.push (.deferred (some [])) } : World).heap.size = w.heap.size + 1 := by simp
        rw [hs] at hI2
        refine ⟨_, _, _, _, hr, rfl, rfl, rfl, rfl, rfl, rfl, hI2, g1.ext.trans ex2, hI.obj_new (by omega), ?_⟩
        have hd2 := hd.ext (g1.ext.trans ex2)
        obtain ⟨Ds, h1, h2, h3⟩ := hd2.marks
        obtain ⟨Ds0, k1, k2, k3⟩ := hd.marks
        have eD : Ds0 = Ds := by
          have : Ds0.map markOf = Ds.map markOf := k1.symm.trans h1
          have inj : ∀ (x y : List Nat), x.map markOf = y.map markOf → x = y := by
            intro x
            induction x with
            | nil => intro y hy; cases y with
              | nil => rfl
              | cons b y => simp at hy
            | cons a x ih => intro y hy; cases y with
              | nil => simp at hy
              | cons b y =>
                simp only [List.map_cons, List.cons.injEq] at hy
                rw [ih y hy.2]
                have := hy.1
                simp only [markOf, Deferred.mk.injEq, Target.collected.injEq, and_true] at this
                rw [this]
          exact inj _ _ this
        subst eD
        refine ⟨⟨w.heap.size :: Ds0, by rw [k1]; rfl, ?_, ?_⟩, hd2.loop, hd2.lo⟩
        · rw [List.nodup_cons]
          refine ⟨fun hm => ?_, k2⟩
          have := lt_of_get (k3 _ hm).2
          omega
        · intro D hD
          rcases List.mem_cons.1 hD with rfl | hD
          · refine ⟨hd.lo, ?_⟩
            exact ex2.sol.dfr _ _ g1.new
          · exact h3 D hD
      | some l0 =>
        obtain ⟨r0, hr0⟩ := hd.loop l0 rfl
        have hr := run_enterLoop_inner (P := P) hr0 fn a.tmps ps assign body
        obtain ⟨hI2, ex2⟩ := hI.entered (w' := w) (E := E) (r := { state := .ready, pending := none, fn, tmps := a.tmps, params := ps, assign, body, defers := r0.defers }) hE.get
        exact ⟨_, _, _, _, hr, rfl, rfl, rfl, rfl, rfl, rfl, hI2, ex2, hI.obj_new (Nat.le_refl _), hd.ext ex2⟩
    obtain ⟨l, mark, w1, rec, hent, hs, hp, ht, hpar, has, hbo, hI1, ex1, hfr, hd1⟩ := hent
    have hlFO : l ∉ FO := fun h => hFO l h hfr
    -- the iterator's call
    have hfree : ∀ J : St → Prop, Free σ J → Free (σ.setObj l (some (.loop rec E))) J := fun J h => ⟨h.up, h.box, fun s i q hi hs => h.obj s i q (by
      have hne : i ≠ l := by rintro rfl; rw [setObj_same] at hi; cases hi
      rwa [setObj_other hne] at hi) hs⟩
    have hown : ∀ r, Free (σ.setObj l (some (.loop rec E))) (fun s => s.obj l = some (.loop r E)) := fun r => .hasObj (by rw [setObj_same]; simp) _
    have hO : ∀ k s l q, σ.obj l = none → I k s → I k (s.setObj l q) := fun k s l q hl h => (hU k).obj s l q hl h
    have hOD : ∀ e s l q, σ.obj l = none → D e s → D e (s.setObj l q) := fun e s l q hl h => (hUD e).obj s l q hl h
    have hcall := hit.go l F (l :: FO) (fun k s => I k s ∧ s.obj l = some (.loop rec E)) (fun s => ∃ e c, jumpOf e = some c ∧ D e s ∧ s.obj l = some (.loop (recAt rec .done (some c)) E)) (σ.setObj l (some (.loop rec E)))
      (fun k => (hfree _ (hU k)).and (hown _)) (.ex fun e => .ex fun c => (Free.pure _).and ((hfree _ (hUD e)).and (hown _)))
      (fun k s h => ⟨hF k s h.1, fun i hi => by
        rcases List.mem_cons.1 hi with rfl | hi
        · rw [h.2]; simp
        · exact hI' k s h.1 i hi⟩)
      (fun s ⟨e, c, h1, h2, h3⟩ => ⟨hFD e s h2, fun i hi => by
        rcases List.mem_cons.1 hi with rfl | hi
        · rw [h3]; simp
        · exact hD' e s h2 i hi⟩)
      hO1 (fun k s p cs hp h => ⟨hO2 k s p cs hp h.1, h.2⟩) (fun s p cs hp ⟨e, c, h1, h2, h3⟩ => ⟨e, c, h1, hO3 e s p cs hp h2, h3⟩)
      (fun k xs s hx ⟨hi, hl⟩ => by
        refine RoundW.mk' (n := n) hl hs hp (by rw [ht, hn]) (by rw [hpar]; exact hlen xs (List.mem_of_getElem? hx)) (by rw [hpar]; exact hps) ?_
        rw [hpar, has]
        refine (round k xs s hx hi).mono fun e E1 s1 q => ?_
        obtain ⟨rfl, ho, hk1, hb⟩ := q
        refine ⟨rfl, by rw [ho]; exact hl, ?_⟩
        rw [hbo]
        refine (hb l (some (.loop (recAt rec .busy none) E)) hfr).mono fun e E2 s2 ⟨hk2, q⟩ => ?_
        have hb2 : s2.obj l = some (.loop (recAt rec .busy none) E) := hk2.obj l _ hlFO setObj_same
        have kp : ∀ q', Kp F (l :: FO) s (s2.setObj l q') := fun q' => ⟨fun i cs hi e => hk2.box i cs hi (hk1.box i cs hi e), fun i o hi e => by
          have hne : i ≠ l := fun h => hi (by simp [h])
          have hnF : i ∉ FO := fun h => hi (by simp [h])
          rw [setObj_other hne]
          exact hk2.obj i o hnF (by rw [setObj_other hne]; exact hk1.obj i o hnF e)⟩
        cases e with
        | normal => exact ⟨hb2, kp _, .inl ⟨rfl, hO _ _ _ _ hfr q, setObj_same⟩⟩
        | ret => exact ⟨hb2, kp _, .inr ⟨rfl, .ret, _, rfl, hOD _ _ _ _ hfr q, setObj_same⟩⟩
        | exit j => exact ⟨hb2, kp _, .inr ⟨rfl, .exit j, _, rfl, hOD _ _ _ _ hfr q, setObj_same⟩⟩
        | goto t => exact q.elim
        | panic c => exact q.elim
        | outgrown => exact q.elim)
      ⟨hO _ _ _ _ hfr h0, setObj_same⟩
    have hrel : RelL G w1 (first ++ [.fn (.yield l) [] []] ++ cap) (vs ++ [.func (.yield l) #[] #[]] ++ us) := ((hv1.ext ex1).append (.cons (.fn .nil .nil) .nil)).append (hv2.ext ex1)
    refine ⟨l, mark, w1, { target := .fn (.func f) us.toArray, args := vs.toArray ++ #[.func (.yield l) #[] #[]] }, w1, f, (vs ++ [Value.func (.yield l) #[] #[]] ++ us).toArray, w1, hent, ?_, fun _ _ => trivial, ?_, fun e => by simp [wideAt, Fence.wide] at e, ?_⟩
    · simp only [resolve, hgv]
      simp [go_sem, Deferred.ofValue]
    · simp only [invoke]
      have := own_enter hf (vs.toArray ++ #[.func (.yield l) #[] #[]] ++ us.toArray) w1
      simpa using this
    · refine callsIn_at ((hcall.go G w1 _ hI1 hrel).mono ?_) ro
      rintro e w3 ⟨v, r, s, G3, rfl, ⟨hr, hq⟩, hI3, ex3, hrv⟩
      have fin : ∀ (st : LoopState) (pe : Option Code), s.obj l = some (.loop (recAt rec st pe) E) → st ≠ .busy → ∃ w4, (Instr.endLoop l).run P w3 = .ok pe w4 ∧ Inv w0 G3 (s.setObj l none) w4 ∧ RelE G3 w4 E { a with defers := mark ++ a.defers } ∧ Fr ro w4 (mark ++ a.defers) ∧ Ext G w G3 w4 := by
        intro st pe hl hst
        obtain ⟨hb, here, rel⟩ := loop_here hI3 hl
        have ex4 : Ext G3 w3 G3 (w3.putObj l (.loop { recAt rec st pe with state := .exhausted })) := putObj_ext here rfl rfl (by simp) (fun _ _ => ⟨_, rfl⟩)
        refine ⟨_, run_endLoop here hst, hI3.putOb (σ' := s.setObj l none) hb here rfl rfl rfl rfl (fun i q hi => .inl ?_), ⟨fun t => (hE.get t).ext (ex1.trans (ex3.trans ex4))⟩, (hd1.ext (ex3.trans ex4)), ex1.trans (ex3.trans ex4)⟩
        by_cases e : i = l
        · subst e; rw [setObj_same] at hi; cases hi
        · exact ⟨e, by rwa [setObj_other e] at hi⟩
      rcases hq with ⟨hi, hl⟩ | ⟨e, c, hc, hD, hl⟩
      · obtain ⟨w4, he, hI4, hE4, hd4, ex4⟩ := fin .ready none (by rw [recAt_self hs hp]; exact hl) (by simp)
        exact ⟨_, w4, he, E, s.setObj l none, G3, done _ (hO _ _ _ _ hfr hi), hI4, hE4, hn, hd4, ex4⟩
      · obtain ⟨w4, he, hI4, hE4, hd4, ex4⟩ := fin .done (some c) hl (by simp)
        have hQ := left e _ (hOD e s l none hfr hD) (by rw [hc]; rfl)
        refine ⟨_, w4, he, ?_⟩
        cases e with
        | ret => cases hc; exact wpIn_ret ⟨E, s.setObj l none, G3, hQ, hI4, hE4, hn, hd4, ex4⟩
        | exit j => cases hc; exact wpIn_exit ⟨E, s.setObj l none, G3, hQ, hI4, hE4, hn, hd4, ex4⟩
        | normal => cases hc
        | goto t => cases hc
        | panic c => cases hc
        | outgrown => cases hc⟩
theorem W.rangeFunc {P : Program} {w0 : Base} {n : Nat} {g : Operand} {ps : Array Tmp} {assign body : Code} {Q : Exit → AEnv → St → Prop} {E : AEnv} {σ : St} {f : FuncId} {first cap : List AV} {xss : List (List AV)} (hg : aeval E g = .fn (.func f) first cap) (hf : Own P f)
    (hps : ∀ t ∈ ps.toList, t < n) (hlen : ∀ xs ∈ xss, ps.size = xs.length) (hit : IterW P w0 f first cap xss) (F FO : List Nat) (I : Nat → St → Prop) (D : Exit → St → Prop) (hU : ∀ k, Free σ (I k)) (hUD : ∀ e, Free σ (D e))
    (hF : ∀ k s, I k s → ∀ i ∈ F, s.box i ≠ none) (hFD : ∀ e s, D e s → ∀ i ∈ F, s.box i ≠ none) (hFO : ∀ i ∈ FO, σ.obj i ≠ none) (hI' : ∀ k s, I k s → ∀ i ∈ FO, s.obj i ≠ none) (hD' : ∀ e s, D e s → ∀ i ∈ FO, s.obj i ≠ none) (h0 : I 0 σ)
    (round : ∀ k xs s, xss[k]? = some xs → I k s → W P w0 n assign (Round P w0 n F FO (I (k + 1)) D σ body s) (updL E ps.toList xs) s)
    (done : ∀ s, I xss.length s → Q .normal E s) (left : ∀ e s, D e s → (jumpOf e).isSome = true → Q e E s) : W P w0 n (.rangeFunc g ps assign body) Q E σ :=
  .rangeFuncO hg hf hps hlen hit.o F FO I D hU hUD hF hFD hFO hI' hD' h0 (fun p hp => by cases hp) (fun k s p cs hp => by cases hp) (fun e s p cs hp => by cases hp) round done left
end Go.Al
end
section
set_option linter.unusedVariables false
set_option linter.unusedSimpArgs false
namespace Go.Al
open Go.RowKit
theorem Know.le {τ s : St} {B : BL} (h : Know τ B) (hl : St.Le τ s) : Know s B := ⟨fun p hp => hl.box _ _ (h.has p hp), h.nd⟩
def updSL (L : SL) : List Tmp → List AV → SL
  | t :: ts, x :: xs => updSL ((t, x) :: L) ts xs
  | _, _ => L
theorem updSL_env : ∀ (L : SL) (ts : List Tmp) (xs : List AV), updL (env L) ts xs = env (updSL L ts xs)
  | L, t :: ts, x :: xs => by
    rw [updL, updSL, ← updSL_env]
    congr 1
  | L, [], xs => by cases xs <;> rfl
  | L, t :: ts, [] => rfl
theorem Know.away {s : St} {B : BL} (h : Know s B) {b : Nat} {cs : List AV} (hb : b ∉ B.map (·.1)) : Know (s.setBox b cs) B :=
  ⟨fun p hp => by rw [setBox_ne (by rintro rfl; exact hb (List.mem_map.2 ⟨p, hp, rfl⟩))]; exact h.has p hp, h.nd⟩
theorem Free.know {σ : St} {B : BL} (h : ∀ p ∈ B, σ.box p.1 ≠ none) : Free σ (fun s => Know s B) := ⟨fun _ _ k hl => k.le hl, fun s b cs hb k => ⟨fun p hp => by rw [setBox_ne (by rintro rfl; exact h p hp hb)]; exact k.has p hp, k.nd⟩, fun s l q _ k => k.obj l q⟩
section
variable {P : Program} {w0 : Base} {T : TT} {n : Nat} {k : SL → St → BL → Prop} {X : Nat → SL → St → BL → Prop} {R : SL → St → BL → Prop} {L : SL} {σ : St} {B : BL}
theorem Stop.rangeO (hT : T.ok P) (hm : P.follows .mixedOrders = true) {g : Operand} {ps : Array Tmp} {assign body : Code} {f : FuncId} {first cap : List AV} (hg : ev L g = .fn (.func f) first cap) [hf : OwnF P f] (psl : List Tmp) (hpl : ps.toList = psl) (hps : ∀ t ∈ psl, t < n) (ho1 : codeOk n assign = true) (ho2 : codeOk n body = true)
    {xss : List (List AV)} (hlen : ∀ xs ∈ xss, psl.length = xs.length) {own : List (Nat × List AV)} (hit : IterO P w0 f first cap xss own) (F FO : List Nat) {α β : Type} (ix : α → Nat) (bx : α → BL) (p : α → St → Prop) (a0 : α) (de : β → Exit) (dx : β → BL) (dp : β → St → Prop)
    (up : ∀ a, Free σ (p a)) (upD : ∀ b, Free σ (dp b)) (hK : ∀ a, ∀ q ∈ bx a, q.1 ∈ B.map (·.1)) (hKD : ∀ b, ∀ q ∈ dx b, q.1 ∈ B.map (·.1)) (hF : ∀ a, ∀ i ∈ F, i ∈ (bx a).map (·.1)) (hFD : ∀ b, ∀ i ∈ F, i ∈ (dx b).map (·.1))
    (hFO : ∀ i ∈ FO, σ.obj i ≠ none) (hFa : ∀ a s, p a s → ∀ i ∈ FO, s.obj i ≠ none) (hFb : ∀ b s, dp b s → ∀ i ∈ FO, s.obj i ≠ none) (h0 : ix a0 = 0) (hB0 : BSub (bx a0) B) (hp0 : p a0 σ)
    (hO1 : ∀ q ∈ own, q ∈ B ∧ q.1 ∉ F) (hO2 : ∀ a, ∀ q ∈ own, q.1 ∉ (bx a).map (·.1)) (hO3 : ∀ b, ∀ q ∈ own, q.1 ∉ (dx b).map (·.1)) (hO4 : ∀ a s q cs, q ∈ own → p a s → p a (s.setBox q.1 cs)) (hO5 : ∀ b s q cs, q ∈ own → dp b s → dp b (s.setBox q.1 cs))
    (round : ∀ a s xs, p a s → Know s (bx a) → xss[ix a]? = some xs → xOpen (updSL L psl xs) (bx a) fun L' B' => Xc P w0 T n assign (fun L1 s1 B1 => s1.obj = s.obj ∧ Kp F FO s s1 ∧ ∀ l q, σ.obj l = none → xOpen L1 B1 fun L1 B1 => Xc P w0 T n body
      (fun _ s2 B2 => Kp F FO (s1.setObj l q) s2 ∧ ∃ a', ix a' = ix a + 1 ∧ BSub (bx a') B2 ∧ p a' s2) (fun j _ s2 B2 => Kp F FO (s1.setObj l q) s2 ∧ ∃ b, de b = .exit j ∧ BSub (dx b) B2 ∧ dp b s2) (fun _ s2 B2 => Kp F FO (s1.setObj l q) s2 ∧ ∃ b, de b = .ret ∧ BSub (dx b) B2 ∧ dp b s2) L1 (s1.setObj l q) B1) (fun _ _ _ _ => False) (fun _ _ _ => False) L' s B')
    (done : ∀ a s, ix a = xss.length → p a s → Know s (bx a) → xOpen L (bx a) fun L B => k L s B)
    (left : ∀ b s, dp b s → Know s (dx b) → match de b with | .ret => xOpen L (dx b) fun L B => R L s B | .exit j => xOpen L (dx b) fun L B => X j L s B | _ => True) : Stop (Know σ B → W P w0 n (.rangeFunc g ps assign body) (QX k X R) (env L) σ) := ⟨fun hB => by
  subst hpl
  have hin : ∀ b, b ∈ B.map (·.1) → σ.box b ≠ none := fun b hb => by
    obtain ⟨q, hq, rfl⟩ := List.mem_map.1 hb
    rw [hB.has q hq]; simp
  refine W.rangeFuncO (by rw [← ev_eq]; exact hg) hf.h hps (fun xs hx => by rw [← Array.length_toList]; exact hlen xs hx) hit F FO (fun i s => ∃ a, ix a = i ∧ Know s (bx a) ∧ p a s) (fun e s => ∃ b, de b = e ∧ Know s (dx b) ∧ dp b s)
    (fun i => .ex fun a => (Free.pure _).and ((Free.know fun q hq => hin q.1 (hK a q hq)).and (up a))) (fun e => .ex fun b => (Free.pure _).and ((Free.know fun q hq => hin q.1 (hKD b q hq)).and (upD b)))
    (fun i s ⟨a, h1, h2, h3⟩ j hj => by
      obtain ⟨q, hq, rfl⟩ := List.mem_map.1 (hF a j hj)
      rw [h2.has q hq]; simp)
    (fun e s ⟨b, h1, h2, h3⟩ j hj => by
      obtain ⟨q, hq, rfl⟩ := List.mem_map.1 (hFD b j hj)
      rw [h2.has q hq]; simp)
    hFO (fun i s ⟨a, h1, h2, h3⟩ => hFa a s h3) (fun e s ⟨b, h1, h2, h3⟩ => hFb b s h3) ⟨a0, h0, hB.sub hB0, hp0⟩
    (fun q hq => ⟨hB.has q (hO1 q hq).1, (hO1 q hq).2⟩) (fun i s q cs hq ⟨a, h1, h2, h3⟩ => ⟨a, h1, h2.away (hO2 a q hq), hO4 a s q cs hq h3⟩) (fun e s q cs hq ⟨b, h1, h2, h3⟩ => ⟨b, h1, h2.away (hO3 b q hq), hO5 b s q cs hq h3⟩) ?_ ?_ ?_
  · rintro i xs s hx ⟨a, rfl, hK, hp⟩
    have hr := round a s xs hp hK hx
    rw [xOpen_eq] at hr
    rw [updSL_env]
    refine (Xc_ok hT hm assign _ _ _ _ s (bx a) ho1 hK hr).mono fun e E1 s1 q => ?_
    cases e with
    | normal =>
      obtain ⟨L1, B1, rfl, hB1, h1, h2, h3⟩ := q
      refine ⟨rfl, h1, h2, fun l q hl => ?_⟩
      have hb := h3 l q hl
      rw [xOpen_eq] at hb
      refine (Xc_ok hT hm body _ _ _ L1 (s1.setObj l q) B1 ho2 (hB1.obj l q) hb).mono fun e E2 s2 q => ?_
      cases e with
      | normal =>
        obtain ⟨L2, B2, rfl, hB2, hk, a', k1, k2, k3⟩ := q
        exact ⟨hk, a', k1, hB2.sub k2, k3⟩
      | exit j =>
        obtain ⟨L2, B2, rfl, hB2, hk, b, k1, k2, k3⟩ := q
        exact ⟨hk, b, k1, hB2.sub k2, k3⟩
      | ret =>
        obtain ⟨L2, B2, rfl, hB2, hk, b, k1, k2, k3⟩ := q
        exact ⟨hk, b, k1, hB2.sub k2, k3⟩
      | goto t => exact q.elim
      | panic c => exact q.elim
      | outgrown => exact q.elim
    | exit j => obtain ⟨_, _, _, _, q⟩ := q; exact q.elim
    | ret => obtain ⟨_, _, _, _, q⟩ := q; exact q.elim
    | goto t => exact q.elim
    | panic c => exact q.elim
    | outgrown => exact q.elim
  · rintro s ⟨a, h1, h2, h3⟩
    have := done a s h1 h3 h2
    rw [xOpen_eq] at this
    exact ⟨L, bx a, rfl, h2, this⟩
  · rintro e s ⟨b, rfl, h2, h3⟩ hj
    have := left b s h3 h2
    cases hd : de b with
    | ret => rw [hd] at this; simp only [xOpen_eq] at this; exact ⟨L, dx b, rfl, h2, this⟩
    | exit j => rw [hd] at this; simp only [xOpen_eq] at this; exact ⟨L, dx b, rfl, h2, this⟩
    | normal => rw [hd] at hj; cases hj
    | goto t => rw [hd] at hj; cases hj
    | panic c => rw [hd] at hj; cases hj
    | outgrown => rw [hd] at hj; cases hj⟩
theorem Stop.range (hT : T.ok P) (hm : P.follows .mixedOrders = true) {g : Operand} {ps : Array Tmp} {assign body : Code} {f : FuncId} {first cap : List AV} (hg : ev L g = .fn (.func f) first cap) [hf : OwnF P f] (psl : List Tmp) (hpl : ps.toList = psl) (hps : ∀ t ∈ psl, t < n) (ho1 : codeOk n assign = true) (ho2 : codeOk n body = true)
    {xss : List (List AV)} (hlen : ∀ xs ∈ xss, psl.length = xs.length) (hit : IterW P w0 f first cap xss) (F FO : List Nat) {α β : Type} (ix : α → Nat) (bx : α → BL) (p : α → St → Prop) (a0 : α) (de : β → Exit) (dx : β → BL) (dp : β → St → Prop)
    (up : ∀ a, Free σ (p a)) (upD : ∀ b, Free σ (dp b)) (hK : ∀ a, ∀ q ∈ bx a, q.1 ∈ B.map (·.1)) (hKD : ∀ b, ∀ q ∈ dx b, q.1 ∈ B.map (·.1)) (hF : ∀ a, ∀ i ∈ F, i ∈ (bx a).map (·.1)) (hFD : ∀ b, ∀ i ∈ F, i ∈ (dx b).map (·.1))
    (hFO : ∀ i ∈ FO, σ.obj i ≠ none) (hFa : ∀ a s, p a s → ∀ i ∈ FO, s.obj i ≠ none) (hFb : ∀ b s, dp b s → ∀ i ∈ FO, s.obj i ≠ none) (h0 : ix a0 = 0) (hB0 : BSub (bx a0) B) (hp0 : p a0 σ)
    (round : ∀ a s xs, p a s → Know s (bx a) → xss[ix a]? = some xs → xOpen (updSL L psl xs) (bx a) fun L' B' => Xc P w0 T n assign (fun L1 s1 B1 => s1.obj = s.obj ∧ Kp F FO s s1 ∧ ∀ l q, σ.obj l = none → xOpen L1 B1 fun L1 B1 => Xc P w0 T n body
      (fun _ s2 B2 => Kp F FO (s1.setObj l q) s2 ∧ ∃ a', ix a' = ix a + 1 ∧ BSub (bx a') B2 ∧ p a' s2) (fun j _ s2 B2 => Kp F FO (s1.setObj l q) s2 ∧ ∃ b, de b = .exit j ∧ BSub (dx b) B2 ∧ dp b s2) (fun _ s2 B2 => Kp F FO (s1.setObj l q) s2 ∧ ∃ b, de b = .ret ∧ BSub (dx b) B2 ∧ dp b s2) L1 (s1.setObj l q) B1) (fun _ _ _ _ => False) (fun _ _ _ => False) L' s B')
    (done : ∀ a s, ix a = xss.length → p a s → Know s (bx a) → xOpen L (bx a) fun L B => k L s B)
    (left : ∀ b s, dp b s → Know s (dx b) → match de b with | .ret => xOpen L (dx b) fun L B => R L s B | .exit j => xOpen L (dx b) fun L B => X j L s B | _ => True) : Stop (Know σ B → W P w0 n (.rangeFunc g ps assign body) (QX k X R) (env L) σ) :=
  .rangeO hT hm hg psl hpl hps ho1 ho2 hlen hit.o F FO ix bx p a0 de dx dp up upD hK hKD hF hFD hFO hFa hFb h0 hB0 hp0 (fun q hq => by cases hq) (fun a q hq => by cases hq) (fun b q hq => by cases hq) (fun a s q cs hq => by cases hq) (fun b s q cs hq => by cases hq) round done left
end
end Go.Al
end
section
set_option linter.unusedVariables false
set_option linter.unusedSimpArgs false
namespace Go.Al
open Go.RowKit
section
variable {P : Program} {w0 : Base} {T : TT} {n : Nat} {k : SL → St → BL → Prop} {X : Nat → SL → St → BL → Prop} {R : SL → St → BL → Prop} {L : SL} {σ : St} {B : BL}
theorem Stop.rangeOH (hT : T.ok P) (hm : P.follows .mixedOrders = true) {g : Operand} {ps : Array Tmp} {assign body : Code} {f : FuncId} {first cap : List AV} (hg : ev L g = .fn (.func f) first cap) [hf : OwnF P f] (psl : List Tmp) (hpl : ps.toList = psl) (hps : ∀ t ∈ psl, t < n) (ho1 : codeOk n assign = true) (ho2 : codeOk n body = true)
    {xss : List (List AV)} (hlen : ∀ xs ∈ xss, psl.length = xs.length) {own : List (Nat × List AV)} (hit : IterO P w0 f first cap xss own) (F FO : List Nat) {α β : Type} (ix : α → Nat) (bx : α → BL) (p : α → St → Prop) (a0 : α) (de : β → Exit) (dx : β → BL) (dp : β → St → Prop)
    (up : ∀ a, Free σ (p a)) (upD : ∀ b, Free σ (dp b)) (hK : ∀ a, ∀ q ∈ bx a, q.1 ∈ B.map (·.1)) (hKD : ∀ b, ∀ q ∈ dx b, q.1 ∈ B.map (·.1)) (hF : ∀ a, ∀ i ∈ F, i ∈ (bx a).map (·.1)) (hFD : ∀ b, ∀ i ∈ F, i ∈ (dx b).map (·.1))
    (hFO : ∀ i ∈ FO, σ.obj i ≠ none) (hFa : ∀ a s, p a s → ∀ i ∈ FO, s.obj i ≠ none) (hFb : ∀ b s, dp b s → ∀ i ∈ FO, s.obj i ≠ none) (h0 : ix a0 = 0) (hB0 : BSub (bx a0) B) (hp0 : p a0 σ)
    (hO1 : ∀ q ∈ own, q ∈ B ∧ q.1 ∉ F) (hO2 : ∀ a, ∀ q ∈ own, q.1 ∉ (bx a).map (·.1)) (hO3 : ∀ b, ∀ q ∈ own, q.1 ∉ (dx b).map (·.1)) (hO4 : ∀ a s q cs, q ∈ own → p a s → p a (s.setBox q.1 cs)) (hO5 : ∀ b s q cs, q ∈ own → dp b s → dp b (s.setBox q.1 cs))
    (round : ∀ a s xs, p a s → Know s (bx a) → xss[ix a]? = some xs → xOpen (updSL L psl xs) (bx a) fun L' B' => Hid (Xc P w0 T n assign (fun L1 s1 B1 => s1.obj = s.obj ∧ Kp F FO s s1 ∧ ∀ l q, σ.obj l = none → xOpen L1 B1 fun L1 B1 => Hid (Xc P w0 T n body
      (fun _ s2 B2 => Kp F FO (s1.setObj l q) s2 ∧ ∃ a', ix a' = ix a + 1 ∧ BSub (bx a') B2 ∧ p a' s2) (fun j _ s2 B2 => Kp F FO (s1.setObj l q) s2 ∧ ∃ b, de b = .exit j ∧ BSub (dx b) B2 ∧ dp b s2) (fun _ s2 B2 => Kp F FO (s1.setObj l q) s2 ∧ ∃ b, de b = .ret ∧ BSub (dx b) B2 ∧ dp b s2) L1 (s1.setObj l q) B1)) (fun _ _ _ _ => False) (fun _ _ _ => False) L' s B'))
    (done : ∀ a s, ix a = xss.length → p a s → Know s (bx a) → xOpen L (bx a) fun L B => k L s B)
    (left : ∀ b s, dp b s → Know s (dx b) → match de b with | .ret => xOpen L (dx b) fun L B => R L s B | .exit j => xOpen L (dx b) fun L B => X j L s B | _ => True) : Stop (Know σ B → W P w0 n (.rangeFunc g ps assign body) (QX k X R) (env L) σ) :=
  .rangeO hT hm hg psl hpl hps ho1 ho2 hlen hit F FO ix bx p a0 de dx dp up upD hK hKD hF hFD hFO hFa hFb h0 hB0 hp0 hO1 hO2 hO3 hO4 hO5 (fun a s xs h1 h2 h3 => by have := round a s xs h1 h2 h3; simp only [hid_eq] at this; exact this) done left
end
def Gh.since (G : Gh) (m n : Nat) : Gh := { G with imm := fun b o => G.imm b o ∨ (m ≤ b ∧ b < n) }
theorem Inv.since {w0 : Base} {G : Gh} {σ : St} {w w' : World} (hI : Inv w0 G σ w) (hb : Below w.heap.size w w') : Inv w0 (G.since w.heap.size w'.heap.size) σ w' ∧ Ext G w (G.since w.heap.size w'.heap.size) w' := by
  have hI' := hI.below hb
  have e0 := Ext.below (G := G) hb
  have e1 : Ext G w' (G.since w.heap.size w'.heap.size) w' := ⟨rfl, fun _ _ h => h, fun _ _ h => h, fun _ _ h => .inl h, fun _ _ _ _ h => h, .refl _⟩
  refine ⟨⟨hI'.base, hI'.old, fun i cs hc => ?_, hI'.binj, fun t ht => ?_, hI'.tinj, hI'.apart, fun b o h => ?_, hI'.boxlt, hI'.toklt, hI'.fresh, fun l o hr => (hI'.obj l o hr).ext e1 fun _ _ h _ => h⟩, e0.trans e1⟩
  · obtain ⟨m, c, T, h1, h2, h3, h4, h5⟩ := (hI'.box i cs hc).ex
    exact ⟨m, c, T, h1, h2, h3, h4.ext e1, ⟨fun o ho => ho.elim (h5 o) fun h => by have := hI.boxlt i m h1; omega, h5.tag⟩⟩
  · obtain ⟨m, e', lim, c, T, fr, h1, h2, h3, h4, h5, h6⟩ := (hI'.tok t ht).ex
    exact ⟨m, e', lim, c, T, fr, h1, h2, h3, h4, h5, fun o ho h => h.elim (h6 o ho) fun h => by have := hI.toklt t m e' lim h1; omega⟩
  · rcases h with h | h
    · exact hI'.immlt b o h
    · exact h.2
theorem CallP.fresh {P : Program} {w0 : Base} {f : FuncId} {args : List AV} {r : AV} (h : ∀ G w vs, Below w0.w.heap.size w0.w w → RelL G w args vs → Calls P f vs.toArray w (fun e w' => ∃ v, e = .returned v ∧ Below w.heap.size w w' ∧ Rel (G.since w.heap.size w'.heap.size) w' r v)) : CallP P w0 f args r := fun σ => ⟨fun G w vs hI hr => by
  refine (h G w vs (hI.base ▸ hI.old) hr).mono ?_
  rintro e w' ⟨v, rfl, hb, hv⟩
  obtain ⟨h1, h2⟩ := hI.since hb
  exact ⟨v, r, σ, _, rfl, ⟨rfl, rfl⟩, h1, h2, hv⟩⟩
theorem SCall.w4 {P : Program} {w0 : Base} {f : FuncId} {as : List AV} {σ : St} {B : BL} {hd : Option (Nat × List AV)} {kn : Nat} {K : AV → St → BL → Prop} {R : AV → St → Prop} (h : CallW P w0 f as σ R) [hf : OwnF P f] (hk : kn = 4) (k : ∀ r s, R r s → Know σ B → (∃ B', Know s B' ∧ K r s B') ∧ (HB hd σ → HB hd s)) : SCall P w0 f as σ B hd kn K := ⟨fun hB => .inr ⟨hf.h, .inr (.inr (.inr ⟨hk, h.mono fun r s hr => k r s hr hB⟩))⟩⟩
theorem HB.new {hd : Option (Nat × List AV)} {σ : St} {b : Nat} {cs : List AV} (hb : σ.box b = none) (h : HB hd σ) : HB hd (σ.setBox b cs) := fun p hp => by
  have := h p hp
  rw [setBox_ne (by rintro rfl; rw [hb] at this; cases this)]; exact this
end Go.Al
end
section
set_option linter.unusedVariables false
set_option linter.unusedSimpArgs false
namespace Go.Al
open Go.RowKit
def ownV (n : Nat) : Option (Nat × Nat) → AV
  | none => .nils
  | some (b, cap) => .msl b 0 n cap
structure OwnR (σ τ : St) (xs : List AV) (sz b cap : Nat) : Prop where
  new : σ.box b = none
  has : ∃ junk, τ.box b = some (xs.flatMap AV.cells ++ junk) ∧ cap * sz ≤ (xs.flatMap AV.cells ++ junk).length
  cap : xs.length ≤ cap
def ownP (σ τ : St) (xs : List AV) (sz : Nat) : Option (Nat × Nat) → Prop
  | none => xs = []
  | some (b, cap) => OwnR σ τ xs sz b cap
structure Grw (σ τ : St) (xs : List AV) (sz : Nat) (o : Option (Nat × Nat)) : Prop where
  le : St.Le σ τ
  row : ownP σ τ xs sz o
theorem Grw.nil {σ τ : St} {sz : Nat} (h : St.Le σ τ) : Grw σ τ [] sz none := ⟨h, rfl⟩
theorem Grw.other {σ τ : St} {xs : List AV} {sz : Nat} {o : Option (Nat × Nat)} (h : Grw σ τ xs sz o) {c : Nat} {cs : List AV} (hc : τ.box c = none) : Grw σ (τ.setBox c cs) xs sz o := by
  refine ⟨le_new h.le hc, ?_⟩
  cases o with
  | none => exact h.row
  | some p =>
    obtain ⟨b, cap⟩ := p
    obtain ⟨h1, ⟨junk, h2, h3⟩, h4⟩ := h.row
    exact ⟨h1, ⟨junk, by rw [setBox_ne (by rintro rfl; rw [hc] at h2; cases h2)]; exact h2, h3⟩, h4⟩
theorem Grw.keeps {σ τ : St} {xs : List AV} {sz : Nat} {o : Option (Nat × Nat)} (h : Grw σ τ xs sz o) {c : Nat} {cs : List AV} (hc : σ.box c = none) (hne : ∀ b cap, o = some (b, cap) → b ≠ c) : Grw σ (τ.setBox c cs) xs sz o := by
  refine ⟨le_setBox h.le hc, ?_⟩
  cases o with
  | none => exact h.row
  | some p =>
    obtain ⟨b, cap⟩ := p
    obtain ⟨h1, ⟨junk, h2, h3⟩, h4⟩ := h.row
    exact ⟨h1, ⟨junk, by rw [setBox_ne (hne b cap rfl)]; exact h2, h3⟩, h4⟩
theorem Grw.step {σ τ σ' : St} {xs : List AV} {y : AV} {sz n' b' cap' : Nat} {o : Option (Nat × Nat)} (h : Grw σ τ xs sz o) (q1 : RowV σ' sz (xs ++ [y]) (.msl b' 0 n' cap') (some b')) (q2 : o.map (·.1) = some b' ∨ τ.box b' = none) (q3 : ∀ i cs, o.map (·.1) ≠ some i → τ.box i = some cs → σ'.box i = some cs) (q4 : σ'.tok = τ.tok ∧ σ'.obj = τ.obj) : Grw σ σ' (xs ++ [y]) sz (some (b', cap')) := by
  have hfree : ∀ b, o.map (·.1) = some b → σ.box b = none := fun b e => by
    cases o with
    | none => cases e
    | some p =>
      obtain ⟨b0, c0⟩ := p
      cases e
      exact h.row.new
  refine ⟨⟨fun i cs e => ?_, fun t e => by rw [q4.1]; exact h.le.tok t e, fun l q e => by rw [q4.2]; exact h.le.obj l q e⟩, ?_⟩
  · refine q3 i cs (fun e2 => ?_) (h.le.box i cs e)
    rw [hfree i e2] at e; cases e
  · generalize hv : AV.msl b' 0 n' cap' = v at q1
    generalize hr : some b' = r at q1
    cases q1 with
    | nil hh => cases hr
    | own b0 c0 junk hb hc hl =>
      cases hr
      injection hv with e1 e2 e3 e4
      subst e4
      refine ⟨?_, ⟨junk, hb, hl⟩, hc⟩
      rcases q2 with q2 | q2
      · exact hfree _ q2
      · exact le_none h.le q2
theorem Grw.fin {σ τ : St} {xs : List AV} {sz b cap : Nat} (h : Grw σ τ xs sz (some (b, cap))) : ∃ junk, St.Le (σ.setBox b (xs.flatMap AV.cells ++ junk)) τ ∧ cap * sz ≤ (xs.flatMap AV.cells ++ junk).length := by
  obtain ⟨h1, ⟨junk, h2, h3⟩, h4⟩ := h.row
  refine ⟨junk, ⟨fun i cs e => ?_, h.le.tok, h.le.obj⟩, h3⟩
  by_cases hi : i = b
  · subst hi; rw [setBox_same] at e; cases e; exact h2
  · rw [setBox_ne hi] at e; exact h.le.box i cs e
theorem Grw.base {σ0 σ1 σ : St} {xs : List AV} {sz : Nat} {o : Option (Nat × Nat)} (h : Grw σ1 σ xs sz o) (hl : St.Le σ0 σ1) : Grw σ0 σ xs sz o := by
  refine ⟨hl.trans h.le, ?_⟩
  cases o with
  | none => exact h.row
  | some p =>
    obtain ⟨b, cap⟩ := p
    obtain ⟨h1, h2, h3⟩ := h.row
    exact ⟨le_none hl h1, h2, h3⟩
theorem SLoop.weakBox {P : Program} {w0 : Base} {T : TT} {n : Nat} {c : Code} {k : SL → St → BL → Prop} {X : Nat → SL → St → BL → Prop} {R : SL → St → BL → Prop} {L : SL} {σ : St} {B : BL} (j : Nat) {b : Nat} {cs ds : List AV} (hb : nth B j = some (b, cs)) (hw : WeakL ds cs) (h : SLoop P w0 T n c k X R L (σ.setBox b ds) (setN B j (b, ds))) : SLoop P w0 T n c k X R L σ B := ⟨fun hT ho hB => W.weakBox (hB.get hb) hw (h.go hT ho (hB.set hb))⟩
theorem CallW.post {P : Program} {w0 : Base} {f : FuncId} {args : List AV} {σ : St} {K K' : AV → St → Prop} (h : CallW P w0 f args σ K)
    (k : ∀ G w r s v, K r s → Inv w0 G s w → Rel G w r v → ∃ r' s' G', K' r' s' ∧ Inv w0 G' s' w ∧ Ext G w G' w ∧ Rel G' w r' v) : CallW P w0 f args σ K' := ⟨fun G w vs hI hr => by
  refine (h.go G w vs hI hr).mono ?_
  rintro e w' ⟨v, r, σ', G1, rfl, hK, hI1, ex, hv⟩
  obtain ⟨r', s', G2, h1, h2, h3, h4⟩ := k G1 w' r σ' v hK hI1 hv
  exact ⟨v, r', s', G2, rfl, h1, h2, ex.trans h3, h4⟩⟩
end Go.Al
end
section
set_option linter.unusedVariables false
set_option linter.unusedSimpArgs false
namespace Go.Al
open Go.RowKit
section
variable {H : Type} {enc : TypeId × Value → H} {P : Program} {W : World}
def Lig (P : Program) (t : TypeId) (d : DataW H) : Prop := ∀ n ∈ d.weights P t, n ≤ reachBytes
structure Opens (enc : TypeId × Value → H) (P : Program) (W : World) (t : TypeId) (k : Nat) {α : Type} (mk : α → List AV) (Q : α → Prop) : Prop where
  size : P.cellsOf t = k
  lay : ∀ y, (mk y).length = k ∧ ∀ c ∈ mk y, c.one = true
  go : ∀ (fuel : Nat) (cs : List Value) (x : DataW H × List MemPlace), DataW.trod enc P W 0 (fun _ => true) true fuel t cs = some x → Lig P t x.1 → ∃ y, Q y ∧ RelL (G0 W) W (mk y) cs
theorem Opens.map {t : TypeId} {k : Nat} {α β : Type} {mk : α → List AV} {mk' : β → List AV} {Q : α → Prop} {Q' : β → Prop} (h : Opens enc P W t k mk Q) (g : α → β) (h1 : ∀ y, mk' (g y) = mk y) (h2 : ∀ y, Q y → Q' (g y)) (hl : ∀ z, (mk' z).length = k ∧ ∀ c ∈ mk' z, c.one = true) : Opens enc P W t k mk' Q' :=
  ⟨h.size, hl, fun fuel cs x hx hw => by
    obtain ⟨y, q, r⟩ := h.go fuel cs x hx hw
    exact ⟨g y, h2 y q, by rw [h1]; exact r⟩⟩
theorem Opens.int {t : TypeId} {ik : IntKind} {Q : Int → Prop} (ht : P.underlying t = some (.int ik)) (hs : P.cellsOf t = 1) (hq : ∀ n, (Lit.int ik n).wf = true → Q n) : Opens enc P W t 1 (fun n : Int => [.int ik n]) Q :=
  ⟨hs, fun y => ⟨rfl, fun c hc => by simp at hc; subst hc; rfl⟩, fun fuel cs x hx hw => by
    obtain ⟨n, rfl, rfl, h⟩ := DataW.trod_int ht hx
    exact ⟨n, hq n h, .cons (.int _ _) .nil⟩⟩
theorem Opens.bool {t : TypeId} (ht : P.underlying t = some .bool) (hs : P.cellsOf t = 1) : Opens enc P W t 1 (fun b : Bool => [.bool b]) (fun _ => True) :=
  ⟨hs, fun y => ⟨rfl, fun c hc => by simp at hc; subst hc; rfl⟩, fun fuel cs x hx hw => by
    obtain ⟨n, rfl, rfl⟩ := DataW.trod_bool ht hx
    exact ⟨n, trivial, .cons (.bool _) .nil⟩⟩
theorem Opens.str {t : TypeId} (ht : P.underlying t = some .string) (hs : P.cellsOf t = 1) : Opens enc P W t 1 (fun s : List UInt8 => [.str s]) (fun s => s.length ≤ 1000000000000000) :=
  ⟨hs, fun y => ⟨rfl, fun c hc => by simp at hc; subst hc; rfl⟩, fun fuel cs x hx hw => by
    obtain ⟨s, rfl, rfl, h⟩ := DataW.trod_string ht hx
    refine ⟨s.data.toList, ?_, .cons (str_rel s) .nil⟩
    have h1 := hw s.data.toList.length (by simp [DataW.weights])
    have h2 := reachBytes_lt
    have e3 : (2 : Nat) ^ 47 = 140737488355328 := by decide
    omega⟩
theorem mem_weightsAll {e : TypeId} : ∀ {l : List (DataW H)} {d : DataW H}, d ∈ l → ∀ n ∈ d.weights P e, n ∈ DataW.weightsAll P e l
  | c :: l, d, h, n, hn => by
    simp only [DataW.weightsAll, List.mem_append]
    rcases List.mem_cons.1 h with rfl | h
    · exact .inl hn
    · exact .inr (mem_weightsAll h n hn)
theorem opens_rows {e : TypeId} {k : Nat} {α : Type} {mk : α → List AV} {Q : α → Prop} (h : Opens enc P W e k mk Q) (fuel : Nat) (a : Addr) : ∀ len : Nat,
    (∀ i, i < len → ∃ cs x, W.cells? 0 (a.add (i * k)) k = some cs ∧ DataW.trod enc P W 0 (fun _ => true) true fuel e cs = some x ∧ Lig P e x.1) →
    ∃ (ys : List α) (vs : List Value), ys.length = len ∧ (∀ y ∈ ys, Q y) ∧ vs.length = len * k ∧ (∀ j, j < len * k → W.cell? (a.add j) = vs[j]?) ∧ RelL (G0 W) W (ys.flatMap mk) vs
  | 0, _ => ⟨[], [], rfl, (fun y hy => by cases hy), (by simp), (fun j hj => by omega), .nil⟩
  | n + 1, hx => by
    obtain ⟨ys, vs, h1, h2, h3, h4, h5⟩ := opens_rows h fuel a n fun i hi => hx i (by omega)
    obtain ⟨cs, x, c1, c2, c3⟩ := hx n (by omega)
    obtain ⟨_, c5, c6⟩ := World.cells?_some c1
    obtain ⟨y, q, r⟩ := h.go _ _ _ c2 c3
    have e1 : (n + 1) * k = n * k + k := by rw [Nat.add_mul, Nat.one_mul]
    refine ⟨ys ++ [y], vs ++ cs, by simp [h1], fun z hz => ?_, by simp [h3, c5, e1], fun j hj => ?_, by simpa using h5.append r⟩
    · rcases List.mem_append.1 hz with hz | hz
      · exact h2 z hz
      · rw [List.mem_singleton.1 hz]; exact q
    · by_cases hj2 : j < n * k
      · rw [h4 j hj2, List.getElem?_append_left (by omega)]
      · have h6 := c6 (j - n * k) (by omega)
        rw [List.getElem?_append_right (by omega), h3, ← h6]
        congr 1
        unfold Addr.add
        by_cases z1 : n * k = 0
        · simp [z1]
        · by_cases z2 : j - n * k = 0
          · have : j = n * k := by omega
            simp [z1, z2, this]
          · have : j ≠ 0 := by omega
            simp [z1, z2, this]; omega
theorem Opens.slice {t e : TypeId} {k : Nat} {α : Type} {mk : α → List AV} {Q : α → Prop} (nb : Nat) (h : Opens enc P W e k mk Q) (one : α → AV) (ho : ∀ y, (one y).cells = mk y) (hk : 0 < k)
    (ht : P.underlying t = some (.slice e)) (hs : P.cellsOf t = 1) (hb : P.bytesOf e = nb) : Opens enc P W t 1 (fun l : List α => [.slc k (l.map one) .no]) (fun l => l.length * nb ≤ 140737488351232 ∧ ∀ y ∈ l, Q y) :=
  ⟨hs, fun y => ⟨rfl, fun c hc => by simp at hc; subst hc; rfl⟩, fun fuel cs x hx hw => by
    rcases DataW.trod_slice ht hx with ⟨rfl, rfl⟩ | ⟨a, len, cap, elems, rest, n, rfl, rfl, rfl, hba, hl, hc, hel, hrow, _, _⟩
    · exact ⟨[], ⟨by simp, fun y hy => by cases hy⟩, .cons (.slc (vs := []) rfl (Nat.le_refl _) (Nat.zero_le _) (fun y hy => by cases hy) .nil (fun k v hk => by simp at hk) trivial) .nil⟩
    · have hlen : len * nb ≤ 140737488351232 := by
        have h1 := hw ((elems.length + rest.length) * P.bytesOf e) (by simp [DataW.weights, ht])
        have h2 : reachBytes = 140737488351232 := by decide
        have h4 : len * nb ≤ (elems.length + rest.length) * nb := Nat.mul_le_mul_right _ (by omega)
        rw [hb, h2] at h1
        omega
      obtain ⟨ys, vs, h1, h2, h3, h4, h5⟩ := opens_rows h n a len fun i hi => by
        have hr := hrow i hi
        rw [h.size] at hr
        obtain ⟨x, hx⟩ : ∃ x, elems[i]? = some x := ⟨_, List.getElem?_eq_getElem (by omega)⟩
        rw [hx] at hr
        obtain ⟨cs, k1, k2⟩ := Option.bind_eq_some_iff.1 hr
        refine ⟨cs, x, k1, k2, fun m hm => hw m ?_⟩
        have hmem : x.1 ∈ elems.map (·.1) := List.mem_map.2 ⟨x, List.mem_of_getElem? hx, rfl⟩
        simp only [DataW.weights, ht, List.mem_cons, List.mem_append]
        exact .inr (.inl (mem_weightsAll hmem m hm))
      refine ⟨ys, ⟨by rw [h1]; exact hlen, h2⟩, .cons (.slc (vs := vs) (by simp [h1]) hl hc (fun z hz => ?_) ?_ (fun j v hj => ?_) trivial) .nil⟩
      · obtain ⟨y, _, rfl⟩ := List.mem_map.1 hz
        rw [ho]; exact h.lay y
      · have : (ys.map one).flatMap AV.cells = ys.flatMap mk := by
          clear h1 h2 h4 h5
          induction ys with
          | nil => rfl
          | cons y l ih => simp only [List.map_cons, List.flatMap_cons, ih, ho]
        rw [this]; exact h5
      · have hjl : j < len * k := by
          obtain ⟨h, _⟩ := List.getElem?_eq_some_iff.1 hj
          omega
        have hpos : 0 < len * k := by omega
        have hc0 := h4 0 hpos
        have hcj := h4 j hjl
        rw [hj] at hcj
        obtain ⟨v0, hv0⟩ : ∃ v0, vs[0]? = some v0 := ⟨_, List.getElem?_eq_getElem (by omega)⟩
        rw [hv0] at hc0
        have e0 : a.add 0 = a := rfl
        rw [e0] at hc0
        have hblk : a.block < W.heap.size := World.block_lt_of_cell? W _ hc0
        have hspot : a.spot = none := by
          unfold World.cell? at hc0
          cases hs : a.spot with
          | none => rfl
          | some s => rw [hs] at hc0; split at hc0 <;> simp at hc0
        obtain ⟨b, o, sp⟩ := a
        simp only at hspot hblk
        subst hspot
        refine ⟨b, o, rfl, .inl hblk, ?_⟩
        rw [← hcj]
        unfold Addr.add
        by_cases hj0 : j = 0
        · subst hj0; simp
        · simp [hj0]⟩
structure OpensF (enc : TypeId × Value → H) (P : Program) (W : World) (fs : List Field) (off k : Nat) {α : Type} (mk : α → List AV) (Q : α → Prop) : Prop where
  lay : ∀ y, (mk y).length = k ∧ ∀ c ∈ mk y, c.one = true
  go : ∀ (fuel : Nat) (cs : List Value) (xs : List (DataW H × List MemPlace)), (∀ (i : Nat) (f : Field), fs[i]? = some f → DataW.trod enc P W 0 (fun _ => true) true fuel f.type ((cs.drop f.offset).take (P.cellsOf f.type)) = xs[i]?) →
    xs.length = fs.length → (∀ n ∈ DataW.weightsEach P (fs.map (·.type)) (xs.map (·.1)), n ≤ reachBytes) → cs.length = off + k → ∃ y, Q y ∧ RelL (G0 W) W (mk y) (cs.drop off)
theorem OpensF.nil {off : Nat} : OpensF enc P W [] off 0 (fun _ : Unit => []) (fun _ => True) :=
  ⟨fun y => ⟨rfl, fun c hc => by cases hc⟩, fun fuel cs xs h hl hw hc => ⟨(), trivial, by rw [List.drop_eq_nil_of_le (by omega)]; exact .nil⟩⟩
theorem OpensF.cons {f : Field} {fs : List Field} {off k n : Nat} {α β : Type} {mk : α → List AV} {mk' : β → List AV} {Q : α → Prop} {Q' : β → Prop} (ho : f.offset = off) (h : Opens enc P W f.type k mk Q) (t : OpensF enc P W fs (off + k) n mk' Q') :
    OpensF enc P W (f :: fs) off (k + n) (fun y : α × β => mk y.1 ++ mk' y.2) (fun y => Q y.1 ∧ Q' y.2) :=
  ⟨fun y => ⟨by simp [(h.lay y.1).1, (t.lay y.2).1], fun c hc => (List.mem_append.1 hc).elim ((h.lay y.1).2 c) ((t.lay y.2).2 c)⟩, fun fuel cs xs hx hl hw hc => by
    cases xs with
    | nil => simp at hl
    | cons x xs =>
      have h0 := hx 0 f rfl
      rw [ho, h.size] at h0
      obtain ⟨y, q, r⟩ := h.go fuel _ x h0 fun m hm => hw m (by simp only [List.map_cons, DataW.weightsEach, List.mem_append]; exact .inl hm)
      obtain ⟨z, q2, r2⟩ := t.go fuel cs xs (fun i g hg => hx (i + 1) g hg) (by simpa using hl) (fun m hm => hw m (by simp only [List.map_cons, DataW.weightsEach, List.mem_append]; exact .inr hm)) (by omega)
      refine ⟨(y, z), ⟨q, q2⟩, ?_⟩
      have e : cs.drop off = (cs.drop off).take k ++ cs.drop (off + k) := by rw [← List.drop_drop, List.take_append_drop]
      rw [e]; exact r.append r2⟩
theorem Opens.struct {t : TypeId} {fs : List Field} {k : Nat} {α : Type} {mk : α → List AV} {Q : α → Prop} (h : OpensF enc P W fs 0 k mk Q) (ht : P.underlying t = some (.struct fs.toArray)) (hs : P.cellsOf t = k) : Opens enc P W t k mk Q :=
  ⟨hs, h.lay, fun fuel cs x hx hw => by
    obtain ⟨xs, n, rfl, rfl, hl, hxl, hf⟩ := DataW.trod_struct ht hx
    have := h.go n cs xs (fun i f hi => hf i f (by simpa using hi)) (by simpa using hxl) (fun m hm => hw m (by simpa [DataW.weights, ht] using hm)) (by rw [hl, hs]; omega)
    simpa using this⟩
theorem Opens.argS {t : TypeId} {k : Nat} {α : Type} {mk : α → List AV} {Q : α → Prop} (h : Opens enc P W t k mk Q) {cs : Array Value} {d : DataW H} {ps : List MemPlace} (ht : DataW.Trod enc P W 0 (fun _ => true) true t (.agg cs) d ps) (hw : Lig P t d) : ∃ y, Q y ∧ Rel (G0 W) W (.agg (mk y)) (.agg cs) := by
  obtain ⟨fuel, hf⟩ := ht
  obtain ⟨y, q, r⟩ := h.go _ _ _ hf hw
  have : cs = (cs.toList).toArray := by simp
  rw [this]
  exact ⟨y, q, .agg (h.lay y).2 (by simpa [Value.cells] using r)⟩
end
end Go.Al
end
section
set_option linter.unusedVariables false
set_option linter.unusedSimpArgs false
namespace Go.Al

structure Row where
  key : List UInt8
  val : List UInt8
  deriving DecidableEq
def eBytes (l : List UInt8) : AV := .slc 1 (aBytes l) .no
def eRow (r : Row) : AV := .agg [.str r.key, eBytes r.val]
def eRows (l : List Row) : AV := .slc 2 (l.map eRow) .no
structure Msg where
  seq : Int
  body : List UInt8
  attr : List UInt8
  tries : Int
  until_ : Int
  dead : Bool
  why : List UInt8
  prio : Int
  deriving DecidableEq
def eMsg (m : Msg) : AV := .agg [.int .i64 m.seq, .str m.body, .str m.attr, .int .i64 m.tries, .int .i64 m.until_, .bool m.dead, .str m.why, .int .i64 m.prio]
structure Sub where
  id : Int
  name : List UInt8
  topic : List UInt8
  want : List UInt8
  lease : Int
  most : Int
  floor : Int
  acks : List Int
  queue : List Msg
  note : List UInt8
  deriving DecidableEq
def eInts (l : List Int) : AV := .slc 1 (l.map (.int .i64)) .no
def eMsgs (l : List Msg) : AV := .slc 8 (l.map eMsg) .no
def eSub (x : Sub) : AV := .agg [.int .i64 x.id, .str x.name, .str x.topic, .str x.want, .int .i64 x.lease, .int .i64 x.most, .int .i64 x.floor, eInts x.acks, eMsgs x.queue, .str x.note]
end Go.Al
end
