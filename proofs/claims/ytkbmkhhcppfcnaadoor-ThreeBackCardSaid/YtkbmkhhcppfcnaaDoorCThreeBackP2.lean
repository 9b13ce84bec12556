/- The law ThreeBack returns true for every input, and its arguments read as before: the tied card. No conditions. This is part 2 of 7 of its proof; the parts are read in order. No conditions. -/
import Derived.Test.YtkbmkhhcppfcnaaDoorCThreeBackP1
import Derived.Laws.StructEq
section
set_option linter.unusedVariables false
set_option linter.unusedSimpArgs false
namespace Go.Al
open Go.RowKit

class AppI (P : Program) (t u : TypeId) (sz bytes : outParam Nat) : Prop where
  h : ∃ e i z, AppT P t u e i z ∧ i.size = sz ∧ i.bytes = bytes ∧ 0 < bytes
theorem AppI.of {P : Program} {t u e sz bytes : Nat} {z : Value} (ht : P.underlying t = some (.slice e)) (hu : P.underlying u = some .string ∨ ∃ e', P.underlying u = some (.slice e')) (hs : (P.info? e).map (·.size) = some sz) (hb : (P.info? e).map (·.bytes) = some bytes)
    (hz : (P.info? e).bind (·.zero) = some z) (hc : z.cells.size = sz) (h0 : 0 < bytes) : AppI P t u sz bytes := ⟨by
  obtain ⟨i, hi, rfl⟩ := Option.map_eq_some_iff.1 hs
  obtain ⟨i', hi', rfl⟩ := Option.map_eq_some_iff.1 hb
  obtain rfl : i = i' := by rw [hi] at hi'; exact Option.some.inj hi'
  rw [hi] at hz
  exact ⟨e, i, z, ⟨ht, hu, hi, hz, hc⟩, rfl, rfl, h0⟩⟩
def Room (σ : St) (tk : Tok) : Prop := tk = .full ∨ ∃ q, tk = .own q ∧ σ.tok q = true
structure Moves (σ : St) (tk : Tok) (σ' : St) (tk' : Tok) : Prop where
  box : ∀ i cs, σ.box i = some cs → σ'.box i = some cs
  keep : ∀ p, σ.tok p = true → tk ≠ .own p → σ'.tok p = true ∧ tk' ≠ .own p
  room : Room σ' tk'
theorem Moves.refl {σ : St} {tk : Tok} (h : Room σ tk) : Moves σ tk σ tk := ⟨fun _ _ h => h, fun p hp hn => ⟨hp, hn⟩, h⟩
theorem Moves.full (σ : St) : Moves σ .full σ .full := .refl (.inl rfl)
theorem Moves.trans {σ σ1 σ2 : St} {tk tk1 tk2 : Tok} (h : Moves σ tk σ1 tk1) (k : Moves σ1 tk1 σ2 tk2) : Moves σ tk σ2 tk2 :=
  ⟨fun i cs e => k.box i cs (h.box i cs e), fun p hp hn => by obtain ⟨h1, h2⟩ := h.keep p hp hn; exact k.keep p h1 h2, k.room⟩
theorem Moves.le {σ σ' : St} {tk' : Tok} (h : Moves σ .full σ' tk') : St.Le σ σ' := ⟨h.box, fun p hp => (h.keep p hp (by simp)).1⟩
theorem le_setBox {σ σ' : St} {b : Nat} {cs : List AV} (h : St.Le σ' σ) (hb : σ'.box b = none) : St.Le σ' (σ.setBox b cs) := ⟨fun i ds e => by
  have := h.box i ds e
  have hne : i ≠ b := by rintro rfl; rw [hb] at e; cases e
  simp [St.setBox, hne, this], fun p hp => h.tok p hp⟩
theorem St.Le.trans {a b c : St} (h : St.Le a b) (k : St.Le b c) : St.Le a c := ⟨fun i cs e => k.box i cs (h.box i cs e), fun p e => k.tok p (h.tok p e)⟩
theorem setBox_same {σ : St} {b : Nat} {cs : List AV} : (σ.setBox b cs).box b = some cs := by simp [St.setBox]
theorem setBox_ne {σ : St} {b c : Nat} {cs : List AV} (h : c ≠ b) : (σ.setBox b cs).box c = σ.box c := by simp [St.setBox, h]
theorem setBox_setBox {σ : St} {b : Nat} {cs ds : List AV} : (σ.setBox b cs).setBox b ds = σ.setBox b ds := by
  simp only [St.setBox]; congr 1; funext j; split <;> rfl
theorem setBox_tok {σ : St} {b : Nat} {cs : List AV} : (σ.setBox b cs).tok = σ.tok := rfl
theorem spend_box (σ : St) (tk : Tok) : (σ.spend tk).box = σ.box := by cases tk <;> rfl

section
variable {P : Program} {w0 : World} {ds : List (Option Tmp)} {kind : Kd} {Q : AEnv → St → Prop} {σ : St} {o : Oper} {l : List Oper} {i : Nat} {L : List (Nat × AV)}
theorem spend_moves {tk : Tok} (hr : Room σ tk) {q : Nat} (hq : (σ.spend tk).tok q = false) : Moves σ tk ((σ.spend tk).setTok q true) (.own q) := by
  refine ⟨fun i cs e => by simpa [St.setTok, spend_box] using e, fun p hp hn => ?_, .inr ⟨q, rfl, by simp [St.setTok]⟩⟩
  have hs : (σ.spend tk).tok p = true := by
    rcases hr with rfl | ⟨r, rfl, _⟩
    · exact hp
    · have : p ≠ r := fun e => hn (by rw [e])
      simp [St.spend, St.setTok, this, hp]
  have hne : p ≠ q := by rintro rfl; rw [hs] at hq; cases hq
  exact ⟨by simp [St.setTok, hne, hs], by simp; exact fun e => hne e.symm⟩
theorem ok_append0 {E : AEnv} {t u e : TypeId} {i : TypeInfo} {z : Value} (T : AppT P t u e i z) (s x : Operand) (ho : o.op = .call { callee := .builtin .append, args := #[s, x], argTypes := #[t, u] }) {xs : List AV}
    (hs : aBase i.size (aeval E s) = some (xs, .full)) (hx : aSrc i.size (aeval E x) = some []) : OpOk P o E (.slc i.size xs .full) := ⟨fun w0 G σ w a hI hE => by
  have hsr := base_rel hs (hE.get s (by simp [ho, Op.operands, Call.operands]))
  have hxr := hE.get x (by simp [ho, Op.operands, Call.operands])
  have he : execOp a.eval o = (Builtin.append_ #[t, u] o.type #[a.eval s, a.eval x] >>= fun v => pure (.value v)) := by simp [execOp, ho, resolve, invoke, builtin]
  rw [he]
  generalize a.eval s = vsl at *
  generalize a.eval x = v at *
  obtain ⟨hl, vs, hfc, hrel, hvl, hys⟩ := src_run (P := P) hx hxr
  cases hsr with
  | slc hn hc hm hsz hr hli htk =>
    rename_i A n cap vs0
    subst hn
    have hcap : cap = xs.length := htk
    subst hcap
    obtain ⟨h1, h2⟩ := append_run T o.type (A := A) (len := xs.length) (cap := xs.length) hl hfc
    have hvs : vs = [] := List.eq_nil_of_length_eq_zero (by simpa using hvl)
    subst hvs
    refine ⟨.slice A xs.length xs.length, w, G, ?_, hI, .refl G w, .slc rfl (Nat.le_refl _) hm hsz hr hli rfl⟩
    rw [Sem.run_bind, h1 (by simp)]
    cases A <;> simp [storeCells]⟩
theorem q_append {t : Nat} {a b sz bytes : Nat} {s x : Operand} {u v : AV} {xs ys : List AV} {tk : Tok} [hi : AppI P a b sz bytes] (hk : kind i = 2) (hd : o.dst = some t) (ho : o.op = .call { callee := .builtin .append, args := #[s, x], argTypes := #[a, b] }) (hw : aWantL ds (env L) o = some true)
    (hs : aeval (env L) s = u) (hb : aBase sz u = some (xs, tk)) (hx : aeval (env L) x = v) (hy : aSrc sz v = some ys) (hr : Room σ tk) (hf : (xs.length + ys.length) * bytes ≤ 140737488355328)
    (k : ∀ tk' σ', Moves σ tk σ' tk' → RunsL P w0 ds kind Q (i + 1) l (env ((t, .slc sz (xs ++ ys) tk') :: L)) σ') : RunsL P w0 ds kind Q i (o :: l) (env L) σ := by
  subst hs; subst hx
  obtain ⟨e, inf, z, T, rfl, rfl, hpos⟩ := hi.h
  unfold RunsL
  simp only [hw]
  have hfit : AppFits inf (xs.length + ys.length) := ⟨hf, by
    have : xs.length + ys.length ≤ (xs.length + ys.length) * inf.bytes := Nat.le_mul_of_pos_right _ hpos
    simp only [maxLen]; omega⟩
  rcases hr with rfl | ⟨q, rfl, hq⟩
  · by_cases h0 : ys = []
    · subst h0
      refine .loud hk ((ok_append0 T s x ho hb hy).w σ |>.mono ?_)
      rintro r s' ⟨rfl, rfl⟩
      rw [hd, upd_env]
      have := k .full s' (Moves.full s')
      rwa [List.append_nil] at this
    · refine .loud hk (w_append T s x ho hb hy hfit (.inl ⟨rfl, h0⟩) fun p hp => ?_)
      rw [hd, upd_env]
      exact k _ _ (spend_moves (.inl rfl) hp)
  · refine .loud hk (w_append T s x ho hb hy hfit (.inr ⟨q, rfl, hq⟩) fun p hp => ?_)
    rw [hd, upd_env]
    exact k _ _ (spend_moves (.inr ⟨q, rfl, hq⟩) hp)
theorem q_append' {t : Nat} {a b sz bytes : Nat} {s x : Operand} {u v : AV} {xs ys : List AV} {tk tk0 : Tok} {σ0 : St} [hi : AppI P a b sz bytes] (hk : kind i = 2) (hd : o.dst = some t) (ho : o.op = .call { callee := .builtin .append, args := #[s, x], argTypes := #[a, b] }) (hw : aWantL ds (env L) o = some true)
    (hs : aeval (env L) s = u) (hb : aBase sz u = some (xs, tk)) (hx : aeval (env L) x = v) (hy : aSrc sz v = some ys) (hm : Moves σ0 tk0 σ tk) (hf : (xs.length + ys.length) * bytes ≤ 140737488355328)
    (k : ∀ tk' σ', Moves σ0 tk0 σ' tk' → RunsL P w0 ds kind Q (i + 1) l (env ((t, .slc sz (xs ++ ys) tk') :: L)) σ') : RunsL P w0 ds kind Q i (o :: l) (env L) σ :=
  q_append hk hd ho hw hs hb hx hy hm.room hf fun tk' σ' h => k tk' σ' (hm.trans h)
theorem q_callR {t : Nat} {x : Operand} {args : Array Operand} {ts : Array TypeId} {f : FuncId} {first cap as : List AV} {sz : Nat} {xs : List AV} [hf : OwnF P f] (hk : kind i = 2) (hd : o.dst = some t) (ho : o.op = .call { callee := .value x, args, argTypes := ts }) (hw : aWantL ds (env L) o = some true) (hx : aeval (env L) x = .fn (.func f) first cap)
    (ha : first ++ evals (env L) args.toList ++ cap = as) (h : CallW P w0 f as σ (fun r σ' => ∃ tk, r = .slc sz xs tk ∧ Moves σ .full σ' tk)) (k : ∀ tk σ', Moves σ .full σ' tk → RunsL P w0 ds kind Q (i + 1) l (env ((t, .slc sz xs tk) :: L)) σ') : RunsL P w0 ds kind Q i (o :: l) (env L) σ :=
  q_call hk hd ho hw hx ha h fun r s ⟨tk, e, hm⟩ => by subst e; exact k tk s hm
theorem Moves.then {σ σ1 σ2 : St} {tk tk1 tk2 : Tok} (h : Moves σ tk σ1 tk1) (k : Moves σ1 .full σ2 tk2) : Moves σ tk σ2 tk2 :=
  ⟨fun i cs e => k.box i cs (h.box i cs e), fun p hp hn => by obtain ⟨h1, h2⟩ := h.keep p hp hn; exact k.keep p h1 (by simp), k.room⟩
theorem Moves.more {σ σ1 σ2 : St} {tk tk1 tk2 : Tok} (h : Moves σ tk σ1 tk1) (k : Moves σ1 .full σ2 tk2) : Moves σ tk σ2 tk1 :=
  ⟨fun i cs e => k.box i cs (h.box i cs e), fun p hp hn => by obtain ⟨h1, h2⟩ := h.keep p hp hn; exact ⟨(k.keep p h1 (by simp)).1, h2⟩, by
    rcases h.room with h | ⟨q, rfl, hq⟩
    · exact .inl h
    · exact .inr ⟨q, rfl, (k.keep q hq (by simp)).1⟩⟩
theorem post_le {r : AV} {K : AV → St → Prop} {rs : List ResultVar} {xs : List AV} {E : AEnv} {Q : Exit → AEnv → St → Prop} {σ' : St} (hQ : Q = Post P rs K) (h : aResults P E σ rs = some xs) {r' : AV} (hr : aTuple xs = r') (hw : Weak r r') (hl : St.Le σ' σ) (k : K r σ') {e : Exit} (he : e = .ret ∨ e = .normal) : Q e E σ := by
  subst hQ; subst hr
  exact ⟨he.symm, xs, r, σ', h, hw, hl, k⟩
theorem CallW.room {f : FuncId} {args : List AV} {sz : Nat} {xs : List AV} (h : CallW P w0 f args σ (fun r σ' => ∃ tk, r = .slc sz xs tk ∧ Moves σ .full σ' tk)) : CallW P w0 f args σ (fun r σ' => r = .slc sz xs .no ∧ σ' = σ) :=
  ⟨fun G w vs hI hr => (h.go G w vs hI hr).mono fun e w' ⟨v, r, σ', G', h1, ⟨tk, h2, h3⟩, h4, h5, h6⟩ => ⟨v, .slc sz xs .no, σ, G', h1, ⟨rfl, rfl⟩, h4.drop h3.le, h5, (Weak.tok sz xs tk).go _ _ _ (h2 ▸ h6)⟩⟩
end
end Go.Al
end
section
set_option linter.unusedVariables false
set_option linter.unusedSimpArgs false
namespace Go.Al
open Go.RowKit
def byteOf (n : Int) : UInt8 := UInt8.ofNat (n % 256).toNat
theorem wrap_u8 (n : Int) : IntKind.u8.wrap n = ((byteOf n).toNat : Int) := by
  simp only [IntKind.wrap, IntKind.signed, IntKind.bits, byteOf]
  simp
  omega
class SlI (P : Program) (t : TypeId) (sz : outParam Nat) : Prop where h : ∃ e i z, P.underlying t = some (.slice e) ∧ P.info? e = some i ∧ i.zero = some z ∧ z.cells.size = i.size ∧ i.size = sz ∧ 0 < sz
theorem SlI.of {P : Program} {t e sz : Nat} {z : Value} (ht : P.underlying t = some (.slice e)) (hs : (P.info? e).map (·.size) = some sz) (hz : (P.info? e).bind (·.zero) = some z) (hc : z.cells.size = sz) (h0 : 0 < sz) : SlI P t sz := ⟨by
  obtain ⟨i, hi, rfl⟩ := Option.map_eq_some_iff.1 hs
  rw [hi] at hz
  exact ⟨e, i, z, ht, hi, hz, hc, rfl, h0⟩⟩
theorem length_aBytes (l : List UInt8) : (aBytes l).length = l.length := by simp [aBytes]
theorem aBytes_append (a b : List UInt8) : aBytes (a ++ b) = aBytes a ++ aBytes b := by simp [aBytes]
theorem Weak.of_eq {x y : AV} (h : x = y) : Weak x y := h ▸ .refl x
section
variable {P : Program} {E : AEnv}
theorem a_min {x y : Operand} {ts : Array TypeId} {a b : Int} (hx : aeval E x = .int .i64 a) (hy : aeval E y = .int .i64 b) : Yields P E (.call ⟨.builtin .min, #[x, y], ts⟩) (.int .i64 (min a b)) := by
  refine ⟨?_⟩
  have : (if b < a then b else a) = min a b := by omega
  rcases ts with ⟨ts⟩
  simp [aop, aBuiltin, aMM, hx, hy, this]
theorem a_max {x y : Operand} {ts : Array TypeId} {a b : Int} (hx : aeval E x = .int .i64 a) (hy : aeval E y = .int .i64 b) : Yields P E (.call ⟨.builtin .max, #[x, y], ts⟩) (.int .i64 (max a b)) := by
  refine ⟨?_⟩
  have : (if b > a then b else a) = max a b := by omega
  simp only [GT.gt] at this
  simp [aop, aBuiltin, aMM, hx, hy, this]
theorem a_convB {x : Operand} {s d : TypeId} {k : IntKind} {n : Int} [hs : TyU P s (.int k)] [hd : TyU P d (.int .u8)] (hx : aeval E x = .int k n) : Yields P E (.convert s d x) (.int .u8 ((byteOf n).toNat : Nat)) := by
  have := a_convI (P := P) (d := d) (s := s) (k' := .u8) (k := k) hx
  rwa [wrap_u8] at this
theorem byteOf_toNat (n : Nat) (h : n < 256) : (byteOf n).toNat = n := by
  simp only [byteOf]
  have : ((n : Int) % 256).toNat = n := by omega
  rw [this]; simp; omega
theorem bv8 (a : UInt8) : (BitVec.ofInt 8 (a.toNat : Int)).toNat = a.toNat := by
  have := a.toNat_lt
  simp [BitVec.toNat_ofInt]
theorem a_u8or {x y : Operand} {t yt : TypeId} {a b : UInt8} (hx : aeval E x = .int .u8 a.toNat) (hy : aeval E y = .int .u8 b.toNat) : Yields P E (.binOp .or t x y yt) (.int .u8 ((a ||| b).toNat : Nat)) := by
  refine a_binI hx hy ?_
  simp only [aIntOp, if_true]
  have e : (BitVec.ofInt IntKind.u8.bits (a.toNat : Int) ||| BitVec.ofInt IntKind.u8.bits (b.toNat : Int)).toNat = (a ||| b).toNat := by
    rw [BitVec.toNat_or, UInt8.toNat_or]
    exact congr (congrArg _ (bv8 a)) (bv8 b)
  rw [e, wrap_u8, byteOf_toNat _ (a ||| b).toNat_lt]
theorem a_u8and {x y : Operand} {t yt : TypeId} {a b : UInt8} (hx : aeval E x = .int .u8 a.toNat) (hy : aeval E y = .int .u8 b.toNat) : Yields P E (.binOp .and t x y yt) (.int .u8 ((a &&& b).toNat : Nat)) := by
  refine a_binI hx hy ?_
  simp only [aIntOp, if_true]
  have e : (BitVec.ofInt IntKind.u8.bits (a.toNat : Int) &&& BitVec.ofInt IntKind.u8.bits (b.toNat : Int)).toNat = (a &&& b).toNat := by
    rw [BitVec.toNat_and, UInt8.toNat_and]
    exact congr (congrArg _ (bv8 a)) (bv8 b)
  rw [e, wrap_u8, byteOf_toNat _ (a &&& b).toNat_lt]
theorem byteOf_eq {b : Int} (h : 0 ≤ b ∧ b < 256) : ((byteOf b).toNat : Int) = b := by
  have := byteOf_toNat b.toNat (by omega)
  rw [Int.toNat_of_nonneg h.1] at this
  omega
theorem a_u8orC {x y : Operand} {t yt : TypeId} {a : UInt8} {b : Int} (hx : aeval E x = .int .u8 a.toNat) (hy : aeval E y = .int .u8 b) (h : 0 ≤ b ∧ b < 256) : Yields P E (.binOp .or t x y yt) (.int .u8 ((a ||| byteOf b).toNat : Nat)) :=
  a_u8or hx (by rw [hy, byteOf_eq h])
theorem a_u8andC {x y : Operand} {t yt : TypeId} {a : UInt8} {b : Int} (hx : aeval E x = .int .u8 a.toNat) (hy : aeval E y = .int .u8 b) (h : 0 ≤ b ∧ b < 256) : Yields P E (.binOp .and t x y yt) (.int .u8 ((a &&& byteOf b).toNat : Nat)) :=
  a_u8and hx (by rw [hy, byteOf_eq h])
theorem a_u8add {x y : Operand} {t yt : TypeId} {a b : Int} (hx : aeval E x = .int .u8 a) (hy : aeval E y = .int .u8 b) : Yields P E (.binOp .add t x y yt) (.int .u8 ((byteOf (a + b)).toNat : Nat)) := by
  refine a_binI hx hy ?_
  simp only [aIntOp, if_true, wrap_u8]
theorem a_u8sub {x y : Operand} {t yt : TypeId} {a b : Int} (hx : aeval E x = .int .u8 a) (hy : aeval E y = .int .u8 b) : Yields P E (.binOp .sub t x y yt) (.int .u8 ((byteOf (a - b)).toNat : Nat)) := by
  refine a_binI hx hy ?_
  simp only [aIntOp, if_true, wrap_u8]
theorem toB_nil : toBytes [] = some [] := rfl
theorem toB_cons {b : UInt8} {xs : List AV} {l : List UInt8} (h : toBytes xs = some l) : toBytes (.int .u8 (b.toNat : Nat) :: xs) = some (b :: l) := by
  show ((toByte (aByte b)).bind fun b => (toBytes xs).map (b :: ·)) = _
  rw [toByte_aByte, h]; rfl
theorem toB_consC {n : Int} {xs : List AV} {l : List UInt8} (h : toBytes xs = some l) (hn : 0 ≤ n ∧ n < 256) : toBytes (.int .u8 n :: xs) = some (byteOf n :: l) := by
  have := toB_cons (b := byteOf n) h
  rwa [byteOf_eq hn] at this
theorem a_bytesStrX {x : Operand} {s d e : TypeId} {l : List UInt8} {xs : List AV} {tk : Tok} [hs : TyU P s (.slice e)] [hd : TyU P d .string] [he : TyU P e (.int .u8)] (hx : aeval E x = .slc 1 xs tk) (h : toBytes xs = some l) : Yields P E (.convert s d x) (.str l) := by
  refine ⟨?_⟩
  simp [aop, aConv, aBytesStr, hx, hs.h, hd.h, he.h, h]
theorem a_quo64 {x y : Operand} {t yt : TypeId} {a b : Int} (hx : aeval E x = .int .i64 a) (hy : aeval E y = .int .i64 b) (h : 0 ≤ a ∧ a ≤ 9223372036854775807 ∧ 1 ≤ b) : Yields P E (.binOp .quo t x y yt) (.int .i64 (a / b)) := by
  refine a_binI hx hy ?_
  have : b ≠ 0 := by omega
  simp [aIntOp, this, IntWalk.i64_quo a b h]
theorem a_rem {x y : Operand} {t yt : TypeId} {k : IntKind} {a b : Int} (hx : aeval E x = .int k a) (hy : aeval E y = .int k b) (h : 0 ≤ a ∧ b ≠ 0) : Yields P E (.binOp .rem t x y yt) (.int k (a % b)) := by
  refine a_binI hx hy ?_
  simp [aIntOp, h.2, IntWalk.rem_in a b h.1]
theorem a_shr {x y : Operand} {t yt : TypeId} {k k' : IntKind} {a b : Int} {p : Nat} (hx : aeval E x = .int k a) (hy : aeval E y = .int k' b) (h : 0 ≤ b) (hp : 2 ^ (min b.toNat k.bits) = p) : Yields P E (.binOp .shr t x y yt) (.int k (a / p)) := by
  refine a_binI hx hy ?_
  have hb : ¬ b < 0 := by omega
  subst hp
  simp only [aIntOp, if_neg hb]
  rw [Int.fdiv_eq_ediv_of_nonneg _ (Int.pow_nonneg (by decide))]
  simp
theorem a_build1 {x : Operand} {t sz : Nat} [hi : SlI P t sz] {v : AV} (hx : aeval E x = v) (hf : v.flat = true) (hc : v.cells.length = sz) (h4 : sz ≤ 4096) : Yields P E (.buildSlice t 1 #[(0, x)]) (.slc sz [v] .full) := by
  refine ⟨?_⟩
  obtain ⟨e, i, z, h1, h2, h3, h4, rfl, h6⟩ := hi.h
  subst hx
  simp [aop, aBuildSlice, h1, h2, h3, h4, h6, aParts, hf, hc]
  omega
end
end Go.Al
end
section
set_option linter.unusedVariables false
set_option linter.unusedSimpArgs false
namespace Go.Al
open Go.RowKit
theorem hb_ne {σ : St} {b c : Nat} {cs ds : List AV} (h : c ≠ b) (k : σ.box c = some cs) : (σ.setBox b ds).box c = some cs := by rw [setBox_ne h, k]
theorem hb_moves {σ σ' : St} {tk tk' : Tok} {b : Nat} {cs : List AV} (h : Moves σ tk σ' tk') (k : σ.box b = some cs) : σ'.box b = some cs := h.box b cs k
theorem ne_none {σ : St} {b c : Nat} {cs : List AV} (h : (σ.setBox b cs).box c = none) : c ≠ b := by rintro rfl; rw [setBox_same] at h; cases h
theorem ne_none' {σ : St} {b c : Nat} {cs : List AV} (h : (σ.setBox b cs).box c = none) : b ≠ c := (ne_none h).symm
theorem none_in {σ : St} {b c : Nat} {cs : List AV} (h : (σ.setBox b cs).box c = none) : σ.box c = none := by
  have := ne_none h
  rwa [setBox_ne this] at h
theorem none_moves {σ σ' : St} {tk tk' : Tok} {b : Nat} (h : Moves σ tk σ' tk') (k : σ'.box b = none) : σ.box b = none := by
  cases e : σ.box b with
  | none => rfl
  | some cs => rw [h.box b cs e] at k; cases k
theorem ne_some {σ : St} {b c : Nat} {cs : List AV} (h : σ.box b = some cs) (k : σ.box c = none) : c ≠ b := by rintro rfl; rw [h] at k; cases k
section
variable {P : Program} {w0 : World} {σ : St}
theorem res_cell {E : AEnv} {a : Nat} {t : TypeId} {b off : Nat} {cs : List AV} {x : AV} {rs : List ResultVar} {xs : List AV} (hE : E a = .ptr b off) (hb : σ.box b = some cs) (hl : aLoadBox P t cs off = some x) (h : aResults P E σ rs = some xs) : aResults P E σ (.cell a t :: rs) = some (x :: xs) := by
  simp [aResults, aResult, hE, hb, hl, h]
theorem res_tmp {E : AEnv} {a : Nat} {x : AV} {rs : List ResultVar} {xs : List AV} (hE : E a = x) (h : aResults P E σ rs = some xs) : aResults P E σ (.tmp a :: rs) = some (x :: xs) := by
  simp [aResults, aResult, hE, h]
theorem res_nil {E : AEnv} : aResults P E σ [] = some [] := rfl
theorem post_q {r : AV} {rs : List ResultVar} {xs : List AV} {E : AEnv} {Q : Exit → AEnv → St → Prop} {σ' : St} {e : Exit} (hQ : Q = Post P rs (fun r' s => r' = r ∧ s = σ')) (h : aResults P E σ rs = some xs) (he : e = .ret ∨ e = .normal) (hl : St.Le σ' σ) (hr : aTuple xs = r) : Q e E σ := by
  subst hQ; subst hr
  exact ⟨he.symm, xs, _, σ', h, .refl _, hl, rfl, rfl⟩
end
theorem setL_all : ∀ (us cs : List AV) (pre : List AV), us.length = cs.length → setL (pre ++ cs) pre.length us = pre ++ us
  | [], [], pre, _ => rfl
  | u :: us, c :: cs, pre, h => by
    rw [setL]
    have e : (pre ++ c :: cs).set pre.length u = (pre ++ [u]) ++ cs := by simp
    have e2 : pre.length + 1 = (pre ++ [u]).length := by simp
    rw [e, e2, setL_all us cs (pre ++ [u]) (by simpa using h)]; simp
theorem setL_whole {us cs : List AV} (h : us.length = cs.length) : setL cs 0 us = us := by simpa using setL_all us cs [] h
end Go.Al
end
section
set_option linter.unusedVariables false
set_option linter.unusedSimpArgs false
namespace Go.Al
open Go.RowKit
theorem fill_congr {p q : Nat → Option (Nat × Nat)} : ∀ (l : List (Nat × AV)) (cells : List AV), (∀ x ∈ l, p x.1 = q x.1) → aFill p cells l = aFill q cells l
  | [], cells, h => rfl
  | (i, v) :: rest, cells, h => by
    rw [aFill, aFill, h (i, v) (by simp)]
    cases q i with
    | none => rfl
    | some os =>
      obtain ⟨off, size⟩ := os
      simp only
      split
      · exact fill_congr rest _ fun x hx => h x (by simp [hx])
      · rfl
theorem fill_none {p : Nat → Option (Nat × Nat)} : ∀ (l : List (Nat × AV)) (cells cs : List AV), aFill p cells l = some cs → ∀ x ∈ l, (p x.1).isSome = true
  | [], cells, cs, h, x, hx => by simp at hx
  | (i, v) :: rest, cells, cs, h, x, hx => by
    rw [aFill] at h
    cases hp : p i with
    | none => rw [hp] at h; cases h
    | some os =>
      rw [hp] at h
      obtain ⟨off, size⟩ := os
      simp only at h
      split at h
      · rcases List.mem_cons.1 hx with rfl | hx
        · simp [hp]
        · exact fill_none rest _ cs h x hx
      · cases h
class BldI (P : Program) (t : TypeId) (z : outParam (List AV)) (pl : outParam (List (Nat × Nat))) : Prop where
  h : ∀ parts cs, aFill (fun i => pl[i]?) z parts = some cs → aBuild P t parts = some (.agg cs)
theorem BldI.struct {P : Program} {t : TypeId} {fs : Array Field} {za : Array Value} {z : List AV} {pl : List (Nat × Nat)} (hu : P.underlying t = some (.struct fs)) (hz : (P.info? t).bind (·.zero) = some (.agg za)) (h1 : za.toList.all (fun c => (aCell c).one) = true)
    (h2 : fs.toList.all (fun f => (P.info? f.type).isSome) = true) (h3 : za.toList.map aCell = z) (h4 : fs.toList.map (fun f => (f.offset, ((P.info? f.type).map (·.size)).getD 0)) = pl) : BldI P t z pl := ⟨fun parts cs h => by
  subst h3; subst h4
  simp only [aBuild, hu, hz, h1, h2, and_self, if_true]
  have e : (fun i : Nat => (fs[i]?).map fun f : Field => (f.offset, ((P.info? f.type).map (·.size)).getD 0)) = fun i : Nat => (fs.toList.map (fun f : Field => (f.offset, ((P.info? f.type).map (·.size)).getD 0)))[i]? := by
    funext i; simp
  rw [e, h]; rfl⟩
theorem BldI.array {P : Program} {t n e sz : Nat} {za : Array Value} {z : List AV} (hu : P.underlying t = some (.array n e)) (hz : (P.info? t).bind (·.zero) = some (.agg za)) (h1 : za.toList.all (fun c => (aCell c).one) = true)
    (h2 : (P.info? e).map (·.size) = some sz) (h3 : za.toList.map aCell = z) : BldI P t z ((List.range n).map fun j => (j * sz, sz)) := ⟨fun parts cs h => by
  subst h3
  obtain ⟨i, hi, rfl⟩ := Option.map_eq_some_iff.1 h2
  simp only [aBuild, hu, hz, h1, hi, if_true]
  have hs := fill_none _ _ _ h
  rw [fill_congr parts _ (q := fun j => ((List.range n).map fun j => (j * i.size, i.size))[j]?) fun x hx => ?_, h]; rfl
  have := hs x hx
  simp only [List.getElem?_map] at this ⊢
  by_cases hn : x.1 < n
  · simp [hn]
  · simp [List.getElem?_eq_none (show (List.range n).length ≤ x.1 by simpa using hn)] at this⟩
inductive EvP (E : AEnv) : List (Nat × Operand) → List (Nat × AV) → Prop
  | nil : EvP E [] []
  | cons {i : Nat} {x : Operand} {v : AV} {l : List (Nat × Operand)} {r : List (Nat × AV)} (h : aeval E x = v) (t : EvP E l r) : EvP E ((i, x) :: l) ((i, v) :: r)
theorem EvP.eq {E : AEnv} : ∀ {l : List (Nat × Operand)} {r : List (Nat × AV)}, EvP E l r → l.map (fun p => (p.1, aeval E p.2)) = r
  | _, _, .nil => rfl
  | _, _, .cons h t => by rw [List.map_cons, t.eq, h]
theorem a_build {P : Program} {E : AEnv} {t : TypeId} {z cs : List AV} {pl : List (Nat × Nat)} {parts : Array (Nat × Operand)} {ps : List (Nat × AV)} [hb : BldI P t z pl] (hp : EvP E parts.toList ps) (h : aFill (fun i => pl[i]?) z ps = some cs) : Yields P E (.build t parts) (.agg cs) :=
  ⟨by rw [aop, hp.eq]; exact hb.h _ _ h⟩
end Go.Al
end
section
set_option linter.unusedVariables false
set_option linter.unusedSimpArgs false
namespace Go.Al
open Go.RowKit
theorem Ext.below {G : Gh} {w w' : World} (hb : Below w.heap.size w w') : Ext G w G w' := ⟨rfl, fun _ _ h => h, fun _ _ h => h, fun _ _ h => h, fun b o v hs hc => by
  have := hb.cell (p := ⟨b, o, none⟩) (lt_of_cell hc)
  rw [this]; exact hc⟩
theorem Inv.below {w0 : World} {G : Gh} {σ : St} {w w' : World} (hI : Inv w0 G σ w) (hb : Below w.heap.size w w') : Inv w0 G σ w' := by
  have e := Ext.below (G := G) hb
  have hg : ∀ (m : Nat) (o : Obj), w.heap[m]? = some o → w'.heap[m]? = some o := fun m o h => by rw [hb.block m (lt_of_get h)]; exact h
  refine ⟨hI.base, hI.old.trans (hb.mono hI.size), ?_, hI.binj, ?_, hI.tinj, hI.apart, ?_, ?_, ?_, hI.fresh⟩
  · intro i cs hc
    obtain ⟨m, c, T, h1, h2, h3, h4, h5⟩ := (hI.box i cs hc).ex
    exact ⟨m, c, T, h1, h2, hg _ _ h3, h4.ext e, h5⟩
  · intro t ht
    obtain ⟨m, e', lim, c, T, fr, h1, h2, h3, h4, h5, h6⟩ := (hI.tok t ht).ex
    exact ⟨m, e', lim, c, T, fr, h1, h2, hg _ _ h3, h4, h5, h6⟩
  · intro b o h; exact Nat.lt_of_lt_of_le (hI.immlt b o h) hb.size
  · intro i m h; exact Nat.lt_of_lt_of_le (hI.boxlt i m h) hb.size
  · intro i m a l h; exact Nat.lt_of_lt_of_le (hI.toklt i m a l h) hb.size
theorem CallP.told {P : Program} {w0 : World} {f : FuncId} {args : List AV} {r : AV} (h : ∀ G w vs, Below w0.heap.size w0 w → RelL G w args vs → ∃ v, (∀ w', Rel G w' r v) ∧ Calls P f vs.toArray w (fun e w' => e = .returned v ∧ Below w.heap.size w w')) : CallP P w0 f args r := fun σ => ⟨fun G w vs hI hr => by
  obtain ⟨v, hv, hc⟩ := h G w vs (hI.base ▸ hI.old) hr
  refine hc.mono ?_
  rintro e w' ⟨rfl, hb⟩
  exact ⟨v, r, σ, G, rfl, ⟨rfl, rfl⟩, hI.below hb, .below hb, hv w'⟩⟩
theorem Inv.weakBox {w0 : World} {G : Gh} {σ : St} {w : World} {b : Nat} {cs ds : List AV} (hI : Inv w0 G σ w) (hb : σ.box b = some cs) (hw : WeakL ds cs) : Inv w0 G (σ.setBox b ds) w := by
  have hs : ∀ i, ((σ.setBox b ds).box i).isSome = true → (σ.box i).isSome = true := fun i hi => by
    by_cases e : i = b
    · subst e; rw [hb]; rfl
    · simpa [St.setBox, e] using hi
  refine ⟨hI.base, hI.old, ?_, fun i j m hi hj => hI.binj i j m (hs i hi) (hs j hj), hI.tok, hI.tinj, fun i t m e l hi ht => hI.apart i t m e l (hs i hi) ht, hI.immlt, hI.boxlt, hI.toklt, hI.fresh⟩
  intro i es hi
  by_cases e : i = b
  · subst e
    simp only [St.setBox, if_true, Option.some.injEq] at hi
    subst hi
    obtain ⟨m, c, T, h1, h2, h3, h4, h5⟩ := (hI.box i cs hb).ex
    exact ⟨m, c, T, h1, h2, h3, hw.rel h4, h5⟩
  · exact hI.box i es (by simpa [St.setBox, e] using hi)
theorem CallW.weakBox {P : Program} {w0 : World} {f : FuncId} {args : List AV} {σ : St} {K : AV → St → Prop} {b : Nat} {cs ds : List AV} (hb : σ.box b = some cs) (hw : WeakL ds cs) (h : CallW P w0 f args (σ.setBox b ds) K) : CallW P w0 f args σ K :=
  ⟨fun G w vs hI hr => h.go G w vs (hI.weakBox hb hw) hr⟩
theorem W.weakBox {P : Program} {w0 : World} {n : Nat} {c : Code} {Q : Exit → AEnv → St → Prop} {E : AEnv} {σ : St} {b : Nat} {cs ds : List AV} (hb : σ.box b = some cs) (hw : WeakL ds cs) (h : W P w0 n c Q E (σ.setBox b ds)) : W P w0 n c Q E σ :=
  ⟨fun G w a hI hE hn hd => h.go G w a (hI.weakBox hb hw) hE hn hd⟩
theorem Moves.set {σ σ' : St} {tk tk' : Tok} (h : Moves σ tk σ' tk') (b : Nat) (cs : List AV) : Moves (σ.setBox b cs) tk (σ'.setBox b cs) tk' := ⟨fun i ds e => by
  by_cases hi : i = b
  · subst hi; simpa [St.setBox] using e
  · simp [St.setBox, hi] at e ⊢; exact h.box i ds e, h.keep, h.room⟩
theorem Moves.new {σ σ' : St} {tk tk' : Tok} {b : Nat} {cs : List AV} (h : Moves σ tk σ' tk') (hb : σ.box b = none) : Moves σ tk (σ'.setBox b cs) tk' := ⟨fun i ds e => by
  have hi : i ≠ b := by rintro rfl; rw [hb] at e; cases e
  simp [St.setBox, hi]; exact h.box i ds e, h.keep, h.room⟩
theorem Moves.less {σ σ0 σ' : St} {tk tk' : Tok} (h : Moves σ tk σ' tk') (hl : ∀ i cs, σ0.box i = some cs → σ.box i = some cs) (ht : σ0.tok = σ.tok) : Moves σ0 tk σ' tk' := ⟨fun i cs e => h.box i cs (hl i cs e), fun p hp hn => h.keep p (ht ▸ hp) hn, h.room⟩
theorem Moves.in {σ σ' : St} {tk tk' : Tok} {b : Nat} {cs : List AV} (h : Moves (σ.setBox b cs) tk σ' tk') (hb : σ.box b = none) : Moves σ tk σ' tk' := h.less (fun i ds e => by
  have hi : i ≠ b := by rintro rfl; rw [hb] at e; cases e
  simp [St.setBox, hi, e]) rfl
theorem room_set {σ : St} {tk : Tok} {b : Nat} {cs : List AV} (h : Room σ tk) : Room (σ.setBox b cs) tk := h
theorem room_more {σ σ' : St} {tk t' : Tok} (h : Room σ tk) (k : Moves σ .full σ' t') : Room σ' tk := by
  rcases h with h | ⟨q, rfl, hq⟩
  · exact .inl h
  · exact .inr ⟨q, rfl, (k.keep q hq (by simp)).1⟩
section
variable {P : Program} {w0 : World} {ds : List (Option Tmp)} {kind : Kd} {Q : AEnv → St → Prop} {σ : St} {o : Oper} {l : List Oper} {i : Nat} {L : List (Nat × AV)}
theorem RunsL.pre {P : Program} {w0 : World} {ds : List (Option Tmp)} {kind : Kd} {Q : AEnv → St → Prop} {i : Nat} {l : List Oper} {E : AEnv} {σ σ' : St} (h : σ = σ') (k : RunsL P w0 ds kind Q i l E σ') : RunsL P w0 ds kind Q i l E σ := h ▸ k
end
theorem a_buildN {P : Program} {E : AEnv} {t n sz : Nat} {parts : Array (Nat × Operand)} {ps : List (Nat × AV)} {xs : List AV} [hi : SlI P t sz] (hp : EvP E parts.toList ps) (hx : aParts ps 0 = some xs) (hn : ps.length = n) (hf : xs.all (fun x => x.flat && (x.cells.length == sz)) = true) (h4 : n * sz ≤ 4096) : Yields P E (.buildSlice t n parts) (.slc sz xs .full) := by
  refine ⟨?_⟩
  obtain ⟨e, i, z, h1, h2, h3, h5, rfl, h6⟩ := hi.h
  subst hn
  simp only [aop, hp.eq, aBuildSlice, h1, h2, h3, h5, h6, h4, and_self, if_true, hx, Option.bind_some, hf]
end Go.Al
end
section
set_option linter.unusedVariables false
set_option linter.unusedSimpArgs false
namespace Go.Al
open Go.RowKit
section
variable {P : Program} {w0 : World} {E : AEnv} {σ : St} {o : Oper}
theorem ok_boxF (t : TypeId) (x : Operand) (ho : o.op = .box t x) (hx : (aeval E x).flat = true) : OpOk P o E (.vp (aeval E x)) := ⟨fun w0 G σ w a hI hE => by
  obtain ⟨hr, hone⟩ := rel_cells_one (hE.get x (by simp [ho, Op.operands, Call.operands])) hx
  have hgr := grows_rest G w (.cells (a.eval x).cells t) (a.eval x).cells.toList.length
  refine ⟨.pointer (some ⟨w.heap.size, 0, none⟩), _, _, ?_, hgr.inv hI, hgr.ext, .vp hone (hr.ext hgr.ext) ?_⟩
  · have he : execOp a.eval o = (Instr.box t (a.eval x) >>= fun v => pure (.value v)) := by simp only [execOp, ho]
    rw [he]
    simp [Instr.box, newVar, newRow]
  · intro k v hk
    refine ⟨w.heap.size, 0, rfl, .inr (.inr ⟨rfl, ?_⟩), ?_⟩
    · obtain ⟨h, _⟩ := List.getElem?_eq_some_iff.1 hk
      omega
    · rw [cell_block (c := (a.eval x).cells) (T := t) (fr := (0, 0)) (by simp)]
      simpa using hk⟩
theorem Inv.freeze {G : Gh} {w : World} {b m : Nat} {cs : List AV} {σ' : St} (hI : Inv w0 G σ w) (hb : σ.box b = some cs) (hl : St.Le σ' σ) (hn : σ'.box b = none) (hm : G.box b = some m) :
    Inv w0 { G with imm := fun b' o => G.imm b' o ∨ b' = m } σ' w ∧ Ext G w { G with imm := fun b' o => G.imm b' o ∨ b' = m } w := by
  have e : Ext G w { G with imm := fun b' o => G.imm b' o ∨ b' = m } w := ⟨rfl, fun _ _ h => h, fun _ _ h => h, fun _ _ h => .inl h, fun b o v _ hc => hc⟩
  have hI' := hI.drop hl
  have hbs : (σ.box b).isSome = true := by rw [hb]; rfl
  refine ⟨⟨hI'.base, hI'.old, fun i ds hi => ?_, hI'.binj, fun t ht => ?_, hI'.tinj, hI'.apart, fun b' o h => ?_, hI'.boxlt, hI'.toklt, hI'.fresh⟩, e⟩
  · obtain ⟨m', c, T, h1, h2, h3, h4, h5⟩ := (hI'.box i ds hi).ex
    refine ⟨m', c, T, h1, h2, h3, h4.ext e, fun o ho => ?_⟩
    rcases ho with ho | rfl
    · exact h5 o ho
    · have his : (σ.box i).isSome = true := by rw [hl.box i ds hi]; rfl
      have := hI.binj i b m' his hbs h1 hm
      subst this
      rw [hn] at hi; cases hi
  · obtain ⟨m', a, lim, c, T, fr, h1, h2, h3, h4, h5, h6⟩ := (hI'.tok t ht).ex
    refine ⟨m', a, lim, c, T, fr, h1, h2, h3, h4, h5, fun o ho hi => ?_⟩
    rcases hi with hi | rfl
    · exact h6 o ho hi
    · exact hI.apart b t m' a lim hbs (hl.tok t ht) hm h1
  · rcases h with h | rfl
    · exact hI'.immlt b' o h
    · exact hI.boxlt b b' hm
theorem W.freeze {n : Nat} {c : Code} {Q : Exit → AEnv → St → Prop} {L : List (Nat × AV)} {b : Nat} {cs : List AV} {σ' : St} (k : Nat) (x : AV) (hb : σ.box b = some cs) (hk : env L k = .ptr b 0) (hx : x.cells = cs) (h1 : ∀ c ∈ x.cells, c.one = true) (hl : St.Le σ' σ) (hn : σ'.box b = none)
    (h : W P w0 n c Q (env ((k, .vp x) :: L)) σ') : W P w0 n c Q (env L) σ := ⟨fun G w a hI hE hsz hd => by
  have hp := hE.get k
  rw [hk] at hp
  generalize hv : a.tmps.getD k undef = v at hp
  cases hp with
  | ptr hgb =>
    rename_i m
    obtain ⟨hI', e⟩ := hI.freeze hb hl hn hgb
    obtain ⟨m', c', T, h1', h2, h3, h4, h5⟩ := (hI.box b cs hb).ex
    obtain rfl : m' = m := by rw [h1'] at hgb; exact Option.some.inj hgb
    have hE' : RelE { G with imm := fun b' o => G.imm b' o ∨ b' = m' } w (env ((k, .vp x) :: L)) a := ⟨fun t => by
      by_cases ht : t = k
      · subst ht
        rw [env_at, if_pos rfl, hv]
        refine .vp h1 (vs := c'.toList) (by rw [hx]; exact h4.ext e) fun j u hj => ⟨m', 0, rfl, .inr (.inr rfl), ?_⟩
        rw [cell_block h3, Nat.zero_add]; simpa using hj
      · rw [env_at, if_neg ht]
        exact (hE.get t).ext e⟩
    obtain go := h.go _ w a hI' hE' hsz hd
    refine wp_mono go ?_
    rintro ex a' w' ⟨E', s', G', q, r1, r2, r3, r4, r5⟩
    exact ⟨E', s', G', q, r1, r2, r3, r4, e.trans r5⟩⟩
end
section
variable {P : Program} {w0 : World} {ds : List (Option Tmp)} {kind : Kd} {Q : AEnv → St → Prop} {σ : St} {o : Oper} {l : List Oper} {i : Nat} {L : List (Nat × AV)}
theorem q_boxF {t : Nat} {ty : TypeId} {x : Operand} {v : AV} (hd : o.dst = some t) (ho : o.op = .box ty x) (hw : aWantL ds (env L) o = some true) (hx : aeval (env L) x = v) (hv : v.flat = true) (k : RunsL P w0 ds kind Q (i + 1) l (env ((t, .vp v) :: L)) σ) : RunsL P w0 ds kind Q i (o :: l) (env L) σ := by
  subst hx
  unfold RunsL
  simp only [hw]
  refine .pure _ (ok_boxF ty x ho hv).pure ?_
  rw [hd, upd_env]; exact k
theorem q_allocN {t : Nat} {ty sz : Nat} [hs : SlI P ty sz] (hk : kind i = 2) (hd : o.dst = some t) (ho : o.op = .alloc ty) (hw : aWantL ds (env L) o = some true) (hz : aZero P ty = some [.nils]) (k : ∀ b, σ.box b = none → RunsL P w0 ds kind Q (i + 1) l (env ((t, .ptr b 0) :: L)) (σ.setBox b [.slc sz [] .full])) : RunsL P w0 ds kind Q i (o :: l) (env L) σ := by
  unfold RunsL
  simp only [hw]
  refine .loud hk ⟨fun G w a hI hE next Qx hn => (w_alloc (K := fun r s => ∃ b, σ.box b = none ∧ r = .ptr b 0 ∧ s = σ.setBox b [.nils]) ty ho hz fun b hb => ⟨b, hb, rfl, rfl⟩).go G w a hI hE next Qx ?_⟩
  rintro v w' G' r s ⟨b, hb, rfl, rfl⟩ hI' e hr
  refine hn v w' G' (.ptr b 0) (σ.setBox b [.slc sz [] .full]) ?_ ?_ e hr
  · rw [hd, upd_env]; exact k b hb
  · have := hI'.weakBox (b := b) (cs := [.nils]) (ds := [.slc sz [] .full]) setBox_same (.cons (.nils sz .full (.inr rfl)) .nil)
    rwa [setBox_setBox] at this
end
theorem a_neg64 {P : Program} {E : AEnv} {x : Operand} {t : TypeId} {a : Int} (hx : aeval E x = .int .i64 a) (h : -9223372036854775807 ≤ a ∧ a ≤ 9223372036854775807) : Yields P E (.unOp .neg t x) (.int .i64 (-a)) := by
  refine ⟨?_⟩
  have : IntKind.i64.wrap (-a) = -a := IntWalk.i64_in _ (by omega)
  have e0 : (0 - a) = -a := by omega
  simp [aop, hx, AV.val, aUnV, Op.unary, Op.intArith, semVal, Pure.pure, aConst, aCell, this, e0]
def kindOf (rd : Nat) (ls : List Nat) (l : List Oper) (i : Nat) : Nat :=
  match l[i]? with
  | none => 0
  | some o => match o.op with
    | .load .. => rd
    | .alloc _ | .box .. | .store .. => 2
    | .call ⟨.builtin .append, _, _⟩ => 2
    | .call ⟨.value (.func f), _, _⟩ => if ls.contains f then 2 else 0
    | _ => 0
theorem W.regionDK {P : Program} {w0 : World} {n : Nat} {id : Nat} {l : List Oper} {ds : List (Option Tmp)} {Q : Exit → AEnv → St → Prop} {E : AEnv} {σ : St} (rd : Nat) (ls : List Nat) (hm : P.follows .mixedOrders = true) (ho : orderOk l.toArray (kindOf rd ls l) (List.range l.length) = true) (hd : dstsOk n l.toArray = true) (hds : l.map (·.dst) = ds) (h : RunsL P w0 ds ⟨kindOf rd ls l, 0, none⟩ (fun E σ => Q .normal E σ) 0 l E σ) :
    W P w0 n (.region id l.toArray true) Q E σ := .regionDL hm ⟨kindOf rd ls l, 0, none⟩ ho hd hds h
end Go.Al
end
section
set_option linter.unusedVariables false
set_option linter.unusedSimpArgs false
namespace Go.Al
open Go.RowKit
section
variable {P : Program} {w0 : World} {ds : List (Option Tmp)} {kind : Kd} {Q : AEnv → St → Prop} {σ : St} {o : Oper} {l : List Oper} {i : Nat} {L : List (Nat × AV)}
theorem q_callM {t : Nat} {x : Operand} {args : Array Operand} {ts : Array TypeId} {f : FuncId} {first cap as : List AV} {sz : Nat} {xs : List AV} {σ0 : St} {tk0 : Tok} [hf : OwnF P f] (hk : kind i = 2) (hd : o.dst = some t) (ho : o.op = .call { callee := .value x, args, argTypes := ts }) (hw : aWantL ds (env L) o = some true) (hx : aeval (env L) x = .fn (.func f) first cap)
    (ha : first ++ evals (env L) args.toList ++ cap = as) (h : CallW P w0 f as σ (fun r σ' => ∃ tk, r = .slc sz xs tk ∧ Moves σ0 tk0 σ' tk)) (k : ∀ tk σ', Moves σ0 tk0 σ' tk → RunsL P w0 ds kind Q (i + 1) l (env ((t, .slc sz xs tk) :: L)) σ') : RunsL P w0 ds kind Q i (o :: l) (env L) σ :=
  q_call hk hd ho hw hx ha h fun r s ⟨tk, e, hm⟩ => by subst e; exact k tk s hm
theorem q_callB {t : Nat} {x : Operand} {args : Array Operand} {ts : Array TypeId} {f : FuncId} {first cap as : List AV} {σ0 : Tok → St} {tk0 : Tok} [hf : OwnF P f] (hk : kind i = 2) (hd : o.dst = some t) (ho : o.op = .call { callee := .value x, args, argTypes := ts }) (hw : aWantL ds (env L) o = some true) (hx : aeval (env L) x = .fn (.func f) first cap)
    (ha : first ++ evals (env L) args.toList ++ cap = as) (h : CallW P w0 f as σ (fun r σ' => r = .tup [] ∧ ∃ tk, Moves (σ0 tk) tk0 σ' tk)) (k : ∀ tk σ', Moves (σ0 tk) tk0 σ' tk → RunsL P w0 ds kind Q (i + 1) l (env ((t, .tup []) :: L)) σ') : RunsL P w0 ds kind Q i (o :: l) (env L) σ :=
  q_call hk hd ho hw hx ha h fun r s ⟨e, tk, hm⟩ => by subst e; exact k tk s hm
end
theorem a_makeFunc {P : Program} {E : AEnv} {f : Fn} {first cap : Array Operand} {fs cs : List AV} (h1 : evals E first.toList = fs) (h2 : evals E cap.toList = cs) : Yields P E (.makeFunc f first cap) (.fn f fs cs) := by
  refine ⟨?_⟩
  rw [evals_eq] at h1 h2
  simp only [aop, h1, h2]
theorem Moves.chain {s s1 s2 : St} {b : Nat} {X Y : List AV} {tk0 tk1 tk2 : Tok} (h1 : Moves (s.setBox b X) tk0 s1 tk1) (h2 : Moves (s1.setBox b Y) tk1 s2 tk2) : Moves (s.setBox b Y) tk0 s2 tk2 := by
  have := (h1.set b Y).trans h2
  rwa [setBox_setBox] at this
theorem Moves.round {σ0 s s' s'' : St} {bo bw : Nat} {X Y W : List AV} {tko tko' tkw : Tok} (h : Moves (σ0.setBox bo X) .full s tko) (hb : s.box bw = none) (hw : Moves (s.setBox bw W) .full s' tkw) (hl : Moves (s'.setBox bo Y) tko s'' tko') : Moves (σ0.setBox bo Y) .full s'' tko' := by
  have h1 : Moves s .full s' tkw := hw.in hb
  exact (h.more h1).chain hl
theorem W.meet {P : Program} {w0 : World} {n : Nat} {x : Code} {Q : Exit → AEnv → St → Prop} {E : AEnv} {σ : St} {K : AEnv → St → Prop} (R : AEnv → St → Prop) (h1 : W P w0 n x (thenQ R Q) E σ) (h2 : ∀ E σ, R E σ → K E σ) : W P w0 n x (thenQ K Q) E σ :=
  h1.mono fun e E σ q => by
    cases e with
    | normal => exact h2 E σ q
    | _ => exact q
theorem W.freeze1 {P : Program} {w0 : World} {n : Nat} {c : Code} {Q : Exit → AEnv → St → Prop} {L : List (Nat × AV)} {σ : St} {b : Nat} {zs cs : List AV} (k : Nat) (x : AV) (hn : σ.box b = none) (hk : env L k = .ptr b 0) (hx : x.cells = cs) (h1 : x.cells.all AV.one = true) (h : W P w0 n c Q (env ((k, .vp x) :: L)) σ) : W P w0 n c Q (env L) ((σ.setBox b zs).setBox b cs) := by
  rw [setBox_setBox]
  exact .freeze k x setBox_same hk hx (fun c hc => List.all_eq_true.1 h1 c hc) (le_setBox (.refl _) hn) hn h
theorem weakL_mid {x y : AV} (hw : Weak x y) : ∀ (as bs : List AV), WeakL (as ++ x :: bs) (as ++ y :: bs)
  | [], bs => .cons hw (.refl _)
  | a :: as, bs => .cons (.refl _) (weakL_mid hw as bs)
theorem CallW.weak1 {P : Program} {w0 : World} {f : FuncId} (as : List AV) {x y : AV} (bs : List AV) {σ : St} {K : AV → St → Prop} (hw : Weak x y) (h : CallW P w0 f (as ++ x :: bs) σ K) : CallW P w0 f (as ++ y :: bs) σ K :=
  h.weaken (weakL_mid hw as bs)
end Go.Al
end
section
set_option linter.unusedVariables false
set_option linter.unusedSimpArgs false
namespace Go.Al
section
variable {P : Program} {E : AEnv} {r : AV}
theorem g_binOp {op : BinOp} {t yt : TypeId} {x y : Operand} (h : Yields P E (.binOp op t x y yt) r) : Yields P E (.binOp op t x y yt) r := h
theorem g_unOp {op : UnOp} {t : TypeId} {x : Operand} (h : Yields P E (.unOp op t x) r) : Yields P E (.unOp op t x) r := h
theorem g_load {t : TypeId} {x : Operand} (h : Yields P E (.load t x) r) : Yields P E (.load t x) r := h
theorem g_fieldAddr {t : TypeId} {x : Operand} {f : Nat} (h : Yields P E (.fieldAddr t x f) r) : Yields P E (.fieldAddr t x f) r := h
theorem g_field {t : TypeId} {x : Operand} {f : Nat} (h : Yields P E (.field t x f) r) : Yields P E (.field t x f) r := h
theorem g_indexAddr {t : TypeId} {x i : Operand} (h : Yields P E (.indexAddr t x i) r) : Yields P E (.indexAddr t x i) r := h
theorem g_index {t : TypeId} {x i : Operand} (h : Yields P E (.index t x i) r) : Yields P E (.index t x i) r := h
theorem g_call {c : Call} (h : Yields P E (.call c) r) : Yields P E (.call c) r := h
theorem g_convert {s d : TypeId} {x : Operand} (h : Yields P E (.convert s d x) r) : Yields P E (.convert s d x) r := h
theorem g_pick {c x y : Operand} (h : Yields P E (.pick c x y) r) : Yields P E (.pick c x y) r := h
theorem g_nilCheck {x : Operand} (h : Yields P E (.nilCheck x) r) : Yields P E (.nilCheck x) r := h
theorem g_extract {x : Operand} {i : Nat} (h : Yields P E (.extract x i) r) : Yields P E (.extract x i) r := h
theorem g_slice {t : TypeId} {x : Operand} {a b c : Option Operand} (h : Yields P E (.slice t x a b c) r) : Yields P E (.slice t x a b c) r := h
theorem g_build {t : TypeId} {p : Array (Nat × Operand)} (h : Yields P E (.build t p) r) : Yields P E (.build t p) r := h
theorem g_buildSlice {t n : Nat} {p : Array (Nat × Operand)} (h : Yields P E (.buildSlice t n p) r) : Yields P E (.buildSlice t n p) r := h
theorem g_makeInterface {t : TypeId} {x : Operand} (h : Yields P E (.makeInterface t x) r) : Yields P E (.makeInterface t x) r := h
end
section
variable {P : Program} {w0 : World} {ds : List (Option Tmp)} {kind : Kd} {Q : AEnv → St → Prop} {σ : St} {o : Oper} {l : List Oper} {i : Nat} {L : List (Nat × AV)}
theorem r_op {r : AV} {t : Nat} (hd : o.dst = some t) (hw : aWantL ds (env L) o = some true) (h : Yields P (env L) o.op r) (k : RunsL P w0 ds kind Q (i + 1) l (env ((t, r) :: L)) σ) : RunsL P w0 ds kind Q i (o :: l) (env L) σ := q_op hd hw h k
theorem r_callP {t : Nat} {x : Operand} {args : Array Operand} {ts : Array TypeId} {f : FuncId} {first cap as : List AV} {r : AV} (ho : o.op = .call { callee := .value x, args, argTypes := ts }) (hd : o.dst = some t) (hw : aWantL ds (env L) o = some true) (hx : aeval (env L) x = .fn (.func f) first cap)
    (ha : first ++ evals (env L) args.toList ++ cap = as) (hf : OwnF P f) (h : CallP P w0 f as r) (k : RunsL P w0 ds kind Q (i + 1) l (env ((t, r) :: L)) σ) : RunsL P w0 ds kind Q i (o :: l) (env L) σ := q_callP hd ho hw hx ha h k
theorem r_load {t : Nat} {ty : TypeId} {x : Operand} {b off : Nat} {cs : List AV} {r : AV} (ho : o.op = .load ty x) (hd : o.dst = some t) (hx : aeval (env L) x = .ptr b off) (hk : kind i = 1 ∨ kind i = 2) (hw : aWantL ds (env L) o = some true) (hb : σ.box b = some cs) (hr : aLoadBox P ty cs off = some r) (k : RunsL P w0 ds kind Q (i + 1) l (env ((t, r) :: L)) σ) : RunsL P w0 ds kind Q i (o :: l) (env L) σ := q_load hk hd ho hw hx hb hr k
theorem r_allocN {t : Nat} {ty sz : Nat} (ho : o.op = .alloc ty) (hd : o.dst = some t) (hk : kind i = 2) (hs : SlI P ty sz) (hw : aWantL ds (env L) o = some true) (hz : aZero P ty = some [.nils]) (k : ∀ b, σ.box b = none → RunsL P w0 ds kind Q (i + 1) l (env ((t, .ptr b 0) :: L)) (σ.setBox b [.slc sz [] .full])) : RunsL P w0 ds kind Q i (o :: l) (env L) σ := q_allocN hk hd ho hw hz k
theorem r_alloc {t : Nat} {ty : TypeId} {cs : List AV} (ho : o.op = .alloc ty) (hd : o.dst = some t) (hk : kind i = 2) (hw : aWantL ds (env L) o = some true) (hz : aZero P ty = some cs) (k : ∀ b, σ.box b = none → RunsL P w0 ds kind Q (i + 1) l (env ((t, .ptr b 0) :: L)) (σ.setBox b cs)) : RunsL P w0 ds kind Q i (o :: l) (env L) σ := q_alloc hk hd ho hw hz k
theorem r_boxF {t : Nat} {ty : TypeId} {x : Operand} {v : AV} (ho : o.op = .box ty x) (hd : o.dst = some t) (hw : aWantL ds (env L) o = some true) (hx : aeval (env L) x = v) (hv : v.flat = true) (k : RunsL P w0 ds kind Q (i + 1) l (env ((t, .vp v) :: L)) σ) : RunsL P w0 ds kind Q i (o :: l) (env L) σ := q_boxF hd ho hw hx hv k
theorem r_box {t : Nat} {ty : TypeId} {x : Operand} {v : AV} {cs : List AV} (ho : o.op = .box ty x) (hd : o.dst = some t) (hk : kind i = 2) (hw : aWantL ds (env L) o = some true) (hx : aeval (env L) x = v) (hv : v.flat = true) (hc : v.cells = cs) (k : ∀ b, σ.box b = none → RunsL P w0 ds kind Q (i + 1) l (env ((t, .ptr b 0) :: L)) (σ.setBox b cs)) : RunsL P w0 ds kind Q i (o :: l) (env L) σ := q_box hk hd ho hw hx hv hc k
theorem r_store {ty : TypeId} {x y : Operand} {b off : Nat} {cs us vs : List AV} {v : AV} {n : Nat} (ho : o.op = .store ty x y) (hd : o.dst = none) (hx : aeval (env L) x = .ptr b off) (hk : kind i = 2) (hs : TyS P ty n) (hw : aWantL ds (env L) o = some true) (hb : σ.box b = some cs) (hy : aeval (env L) y = v) (hf : v.flat = true) (hc : v.cells = us) (hn : us.length = n) (hl : off + us.length ≤ cs.length) (hv : setL cs off us = vs)
    (k : RunsL P w0 ds kind Q (i + 1) l (env L) (σ.setBox b vs)) : RunsL P w0 ds kind Q i (o :: l) (env L) σ := q_store hk hd ho hw hx hb hy hf hc hn hl hv k
theorem r_callM {t : Nat} {x : Operand} {args : Array Operand} {ts : Array TypeId} {f : FuncId} {first cap as : List AV} {sz : Nat} {xs : List AV} {σ0 : St} {tk0 : Tok} (ho : o.op = .call { callee := .value x, args, argTypes := ts }) (hd : o.dst = some t) (hk : kind i = 2) (hw : aWantL ds (env L) o = some true) (hx : aeval (env L) x = .fn (.func f) first cap)
    (ha : first ++ evals (env L) args.toList ++ cap = as) (hf : OwnF P f) (h : CallW P w0 f as σ (fun r σ' => ∃ tk, r = .slc sz xs tk ∧ Moves σ0 tk0 σ' tk)) (k : ∀ tk σ', Moves σ0 tk0 σ' tk → RunsL P w0 ds kind Q (i + 1) l (env ((t, .slc sz xs tk) :: L)) σ') : RunsL P w0 ds kind Q i (o :: l) (env L) σ := q_callM hk hd ho hw hx ha h k
theorem r_callB {t : Nat} {x : Operand} {args : Array Operand} {ts : Array TypeId} {f : FuncId} {first cap as : List AV} {σ0 : Tok → St} {tk0 : Tok} (ho : o.op = .call { callee := .value x, args, argTypes := ts }) (hd : o.dst = some t) (hk : kind i = 2) (hw : aWantL ds (env L) o = some true) (hx : aeval (env L) x = .fn (.func f) first cap)
    (ha : first ++ evals (env L) args.toList ++ cap = as) (hf : OwnF P f) (h : CallW P w0 f as σ (fun r σ' => r = .tup [] ∧ ∃ tk, Moves (σ0 tk) tk0 σ' tk)) (k : ∀ tk σ', Moves (σ0 tk) tk0 σ' tk → RunsL P w0 ds kind Q (i + 1) l (env ((t, .tup []) :: L)) σ') : RunsL P w0 ds kind Q i (o :: l) (env L) σ := q_callB hk hd ho hw hx ha h k
theorem r_callX {α : Type} {t : Nat} {x : Operand} {args : Array Operand} {ts : Array TypeId} {f : FuncId} {first cap as : List AV} {g : α → AV} {R : α → St → Prop} (ho : o.op = .call { callee := .value x, args, argTypes := ts }) (hd : o.dst = some t) (hk : kind i = 2) (hw : aWantL ds (env L) o = some true) (hx : aeval (env L) x = .fn (.func f) first cap)
    (ha : first ++ evals (env L) args.toList ++ cap = as) (hf : OwnF P f) (h : CallW P w0 f as σ (fun r σ' => ∃ z, r = g z ∧ R z σ')) (k : ∀ z σ', R z σ' → RunsL P w0 ds kind Q (i + 1) l (env ((t, g z) :: L)) σ') : RunsL P w0 ds kind Q i (o :: l) (env L) σ :=
  q_call hk hd ho hw hx ha h fun r s ⟨z, e, hr⟩ => by subst e; exact k z s hr
theorem r_append' {t : Nat} {a b sz bytes : Nat} {s x : Operand} {u v : AV} {xs ys : List AV} {tk tk0 : Tok} {σ0 : St} (ho : o.op = .call { callee := .builtin .append, args := #[s, x], argTypes := #[a, b] }) (hd : o.dst = some t) (hk : kind i = 2) (hi : AppI P a b sz bytes) (hw : aWantL ds (env L) o = some true)
    (hs : aeval (env L) s = u) (hb : aBase sz u = some (xs, tk)) (hx : aeval (env L) x = v) (hy : aSrc sz v = some ys) (hm : Moves σ0 tk0 σ tk) (hf : (xs.length + ys.length) * bytes ≤ 140737488355328)
    (k : ∀ tk' σ', Moves σ0 tk0 σ' tk' → RunsL P w0 ds kind Q (i + 1) l (env ((t, .slc sz (xs ++ ys) tk') :: L)) σ') : RunsL P w0 ds kind Q i (o :: l) (env L) σ := q_append' hk hd ho hw hs hb hx hy hm hf k
theorem r_append {t : Nat} {a b sz bytes : Nat} {s x : Operand} {u v : AV} {xs ys : List AV} {tk : Tok} (ho : o.op = .call { callee := .builtin .append, args := #[s, x], argTypes := #[a, b] }) (hd : o.dst = some t) (hk : kind i = 2) (hi : AppI P a b sz bytes) (hw : aWantL ds (env L) o = some true)
    (hs : aeval (env L) s = u) (hb : aBase sz u = some (xs, tk)) (hx : aeval (env L) x = v) (hy : aSrc sz v = some ys) (hr : Room σ tk) (hf : (xs.length + ys.length) * bytes ≤ 140737488355328)
    (k : ∀ tk' σ', Moves σ tk σ' tk' → RunsL P w0 ds kind Q (i + 1) l (env ((t, .slc sz (xs ++ ys) tk') :: L)) σ') : RunsL P w0 ds kind Q i (o :: l) (env L) σ := q_append hk hd ho hw hs hb hx hy hr hf k
end
structure Stk (p : Prop) : Prop where h : p
theorem runsL_perm {P : Program} {w0 : World} {os : List Oper} {kind : Kd} {Q : AEnv → St → Prop} : ∀ (l : List Nat) (kd : Kd) (n : Nat) (E : AEnv) (σ : St), (∀ j, kd (n + j) = kind (l.getD j 0)) → kd.held = kind.held → (∀ i ∈ l, i < os.length) → RunsL P w0 (os.map (·.dst)) kd Q n (l.filterMap fun i => os[i]?) E σ → Runs P w0 os.toArray kind Q l E σ
  | [], kd, n, E, σ, _, _, _, h => h
  | i :: l, kd, n, E, σ, hk, hH, hlt, h => by
    have hi := hlt i (by simp)
    have ho : os.toArray[i]? = some os[i] := by simp [hi]
    have ho' : os[i]? = some os[i] := by simp [hi]
    have hs : ∀ E σ, RunsL P w0 (os.map (·.dst)) kd Q (n + 1) (l.filterMap fun i => os[i]?) E σ → Runs P w0 os.toArray kind Q l E σ := fun E σ h => runsL_perm l kd (n + 1) E σ (fun j => by
      have := hk (j + 1)
      rw [show n + 1 + j = n + (j + 1) by omega, this]; simp) hH (fun k hk => hlt k (by simp [hk])) h
    have hkn : kd n = kind i := by simpa using hk 0
    rw [List.filterMap_cons, ho'] at h
    unfold RunsL at h
    rw [want_eq, hkn, hH] at h
    unfold Runs
    rw [ho]
    simp only
    split at h
    · rename_i hw
      try simp only [hw]
      exact h.mono fun r s h => hs _ _ h
    · rename_i hw
      try simp only [hw]
      exact hs _ _ h
    · exact h.elim
theorem order_lt {ops : Array Oper} {kind : Nat → Nat} {l : List Nat} (h : orderOk ops kind l = true) : ∀ i ∈ l, i < ops.size := by
  simp only [orderOk, Bool.and_eq_true, List.all_eq_true, decide_eq_true_eq] at h
  exact fun i hi => h.1.1.1.2 i hi
theorem W.regionDP {P : Program} {w0 : World} {n : Nat} {id : Nat} {l l' : List Oper} {ds : List (Option Tmp)} {Q : Exit → AEnv → St → Prop} {E : AEnv} {σ : St} (ord : List Nat) (rd : Nat) (ls : List Nat) (hm : P.follows .mixedOrders = true) (ho : orderOk l.toArray (kindOf rd ls l) ord = true) (hd : dstsOk n l.toArray = true) (hds : l.map (·.dst) = ds) (hl : (ord.filterMap fun i => l[i]?) = l')
    (h : RunsL P w0 ds ⟨fun i => kindOf rd ls l (ord.getD i 0), 0, none⟩ (fun E σ => Q .normal E σ) 0 l' E σ) : W P w0 n (.region id l.toArray true) Q E σ := by
  subst hds; subst hl
  refine .regionD hm ⟨kindOf rd ls l, 0, none⟩ ord ho hd (runsL_perm ord ⟨fun i => kindOf rd ls l (ord.getD i 0), 0, none⟩ 0 E σ (fun j => by show kindOf rd ls l (ord.getD (0 + j) 0) = _; rw [Nat.zero_add]) rfl ?_ h)
  intro i hi
  simpa using order_lt ho i hi
end Go.Al
end
section
set_option linter.unusedVariables false
set_option linter.unusedSimpArgs false
namespace Go.Al
open Go.RowKit
theorem r_callS {P : Program} {w0 : World} {ds : List (Option Tmp)} {kind : Kd} {Q : AEnv → St → Prop} {σ : St} {o : Oper} {l : List Oper} {i : Nat} {L : List (Nat × AV)} {t : Nat} {x : Operand} {args : Array Operand} {ts : Array TypeId} {f : FuncId} {first cap as : List AV} {r : AV} {σ' : St} (ho : o.op = .call { callee := .value x, args, argTypes := ts }) (hd : o.dst = some t) (hk : kind i = 2) (hw : aWantL ds (env L) o = some true) (hx : aeval (env L) x = .fn (.func f) first cap)
    (ha : first ++ evals (env L) args.toList ++ cap = as) (hf : OwnF P f) (h : CallW P w0 f as σ (fun r' s => r' = r ∧ s = σ')) (k : RunsL P w0 ds kind Q (i + 1) l (env ((t, r) :: L)) σ') : RunsL P w0 ds kind Q i (o :: l) (env L) σ :=
  q_call hk hd ho hw hx ha h fun r s ⟨e1, e2⟩ => by subst e1; subst e2; exact k
class TyI (P : Program) (t : TypeId) : Prop where h : ∃ m, P.underlying t = some (.interface m)
theorem a_nilI {P : Program} {E : AEnv} {x y : Operand} {t yt : TypeId} {op : BinOp} {v r : AV} {b : Bool} [hu : TyI P t] (hx : aeval E x = v) (hy : aeval E y = .nilifc) (hv : v = .nilifc ∨ ∃ s z, v = .ifc s z) (hc : isConstB y = true) (hn : aNil v = some b) (h : aEqOp op b = some r) : Yields P E (.binOp op t x y yt) r := by
  refine ⟨?_⟩
  obtain ⟨m, hu⟩ := hu.h
  rcases hv with rfl | ⟨s, z, rfl⟩ <;> simp [aop, aBin, hx, hy, hu, nilD, nilFit, hc, hn, h]
class TyNI (P : Program) (t : TypeId) : Prop where h : ∃ d, P.underlying t = some d ∧ ifaceD d = false
theorem a_mkIface {P : Program} {E : AEnv} {x : Operand} {t : TypeId} {v : AV} [hu : TyNI P t] (hx : aeval E x = v) : Yields P E (.makeInterface t x) (.ifc t v) := by
  refine ⟨?_⟩
  obtain ⟨d, h1, h2⟩ := hu.h
  simp [aop, aMakeIface, hx, h1, h2]
theorem setBox_id {σ : St} {b : Nat} {cs : List AV} (h : σ.box b = some cs) : σ.setBox b cs = σ := by
  cases σ with
  | mk bx tk =>
    simp only [St.setBox, St.mk.injEq, and_true]
    funext j
    by_cases e : j = b
    · subst e; simpa using h.symm
    · simp [e]
theorem shl_val {c : Nat} {i : Nat} (hc : c < 128) (hi : i < 8) : IntKind.i64.wrap ((c : Int) * 2 ^ (min (7 * (i : Int)).toNat IntKind.i64.bits)) = ((c * 2 ^ (7 * i) : Nat) : Int) := by
  have e : min (7 * (i : Int)).toNat IntKind.i64.bits = 7 * i := by simp [IntKind.bits]; omega
  rw [e]
  have h2 : c * 2 ^ (7 * i) < 2 ^ 62 := by
    have h3 : 2 ^ (7 * i) ≤ 2 ^ 49 := Nat.pow_le_pow_right (by decide) (by omega)
    have h4 := Nat.mul_le_mul (show c ≤ 127 by omega) h3
    have : 127 * 2 ^ 49 < 2 ^ 62 := by decide
    omega
  have e2 : (c : Int) * 2 ^ (7 * i) = ((c * 2 ^ (7 * i) : Nat) : Int) := by simp
  rw [e2, IntWalk.i64_in _ (by have : (2 : Nat) ^ 62 = 4611686018427387904 := by decide
                               omega)]
theorem or_val {n c i : Nat} (hn : n < 2 ^ (7 * i)) (hc : c < 128) (hi : i < 8) : IntKind.i64.wrap ((BitVec.ofInt IntKind.i64.bits (n : Int) ||| BitVec.ofInt IntKind.i64.bits ((c * 2 ^ (7 * i) : Nat) : Int)).toNat : Int) = ((n + c * 2 ^ (7 * i) : Nat) : Int) := by
  have h3 : 2 ^ (7 * i) ≤ 2 ^ 49 := Nat.pow_le_pow_right (by decide) (by omega)
  have h4 := Nat.mul_le_mul (show c ≤ 127 by omega) h3
  have h5 : (2 : Nat) ^ 49 = 562949953421312 := by decide
  have e1 : (BitVec.ofInt IntKind.i64.bits (n : Int)).toNat = n := by
    show (BitVec.ofInt 64 (n : Int)).toNat = n
    rw [BitVec.toNat_ofInt]; omega
  have e2 : (BitVec.ofInt IntKind.i64.bits ((c * 2 ^ (7 * i) : Nat) : Int)).toNat = c * 2 ^ (7 * i) := by
    show (BitVec.ofInt 64 ((c * 2 ^ (7 * i) : Nat) : Int)).toNat = _
    rw [BitVec.toNat_ofInt]; omega
  rw [BitVec.toNat_or, e1, e2, Nat.or_comm, Nat.mul_comm c, ← Nat.two_pow_add_eq_or_of_lt hn, Nat.add_comm]
  rw [IntWalk.i64_in _ (by rw [Nat.mul_comm]; omega)]
theorem and127 : ∀ x : Fin 256, (UInt8.ofNat x &&& byteOf 127).toNat = x % 128 := by decide +kernel
theorem and128 : ∀ x : Fin 256, ((UInt8.ofNat x &&& byteOf 128).toNat = 0 ↔ (x : Nat) < 128) := by decide +kernel
theorem and127' (b : UInt8) : (b &&& byteOf 127).toNat = b.toNat % 128 := by
  have := and127 ⟨b.toNat, b.toNat_lt⟩
  simpa using this
theorem and128' (b : UInt8) : ((b &&& byteOf 128).toNat = 0 ↔ b.toNat < 128) := by
  have := and128 ⟨b.toNat, b.toNat_lt⟩
  simpa using this
theorem a_sliceB {P : Program} {E : AEnv} {x : Operand} {lo hi : Option Operand} {t e : TypeId} {l : List UInt8} {tk : Tok} {a b : Int} [hu : TyU P t (.slice e)] [hs : TyS P e 1] (hx : aeval E x = .slc 1 (aBytes l) tk) (ha : bnd E lo 0 = some a) (hb : bnd E hi (aBytes l).length = some b) (h : 0 ≤ a ∧ a ≤ b ∧ b ≤ (aBytes l).length) :
    Yields P E (.slice t x lo hi none) (.slc 1 (aBytes ((l.take b.toNat).drop a.toNat)) .no) := by
  have := a_sliceL (P := P) (t := t) hx ha hb h
  have e2 : ((aBytes l).take b.toNat).drop a.toNat = aBytes ((l.take b.toNat).drop a.toNat) := by simp [aBytes, List.map_take, List.map_drop]
  rwa [e2] at this
end Go.Al
end
section
set_option linter.unusedVariables false
namespace Go.Al
theorem Moves.two {σ s σ1 : St} {ta tq tk1 : Tok} (ha : Moves σ .full s ta) (hq : Moves σ .full s tq) (hd : ∀ p, tq = .own p → ta ≠ .own p) (hm : Moves s ta σ1 tk1) : Moves σ .full σ1 tk1 ∧ Moves σ .full σ1 tq ∧ (∀ p, tq = .own p → tk1 ≠ .own p) := by
  have hlive : ∀ p, tq = .own p → s.tok p = true := fun p e => by
    rcases hq.room with h | ⟨q, h, hl⟩
    · rw [h] at e; cases e
    · rw [h] at e; cases e; exact hl
  refine ⟨ha.trans hm, ⟨fun i cs e => hm.box i cs (hq.box i cs e), fun p hp hn => ?_, ?_⟩, fun p e => ?_⟩
  · obtain ⟨h1, h2⟩ := ha.keep p hp hn
    exact ⟨(hm.keep p h1 h2).1, (hq.keep p hp hn).2⟩
  · rcases hq.room with h | ⟨q, h, hl⟩
    · exact .inl h
    · exact .inr ⟨q, h, (hm.keep q hl (hd q h)).1⟩
  · exact (hm.keep p (hlive p e) (hd p e)).2
theorem Moves.setN {σ s : St} {b : Nat} {cs : List AV} {tk : Tok} (h : Moves σ .full s tk) (hb : σ.box b = none) : Moves σ .full (s.setBox b cs) tk := h.new hb
end Go.Al
end
section
set_option linter.unusedVariables false
set_option linter.unusedSimpArgs false
namespace Go.Al
open Go.RowKit
def G0 (W : World) : Gh := ⟨W.heap.size, fun _ => none, fun _ => none, fun _ _ => False⟩
theorem inv0 (W : World) : Inv W (G0 W) St.empty W :=
  ⟨rfl, .refl _ _, fun i cs h => (by cases h), fun i j m hi => (by cases hi), fun t h => (by cases h), fun s t m e l e' l' h => (by cases h), fun i t m e l h => (by cases h), fun b o h => h.elim, fun i m h => (by cases h), fun i m e l h => (by cases h), ⟨0, fun i _ => ⟨rfl, rfl⟩⟩⟩
theorem law_calls {P : Program} {W : World} {f : FuncId} {args : List AV} {vs : List Value} (h : CallW P W f args St.empty (fun r _ => r = .bool true)) (hr : RelL (G0 W) W args vs) : Calls P f vs.toArray W (fun e w' => e = .returned (.bool true) ∧ Below W.heap.size W w') := by
  refine (h.go (G0 W) W vs (inv0 W) hr).mono ?_
  rintro e w' ⟨v, r, σ', G', rfl, rfl, hI, hx, hrel⟩
  cases hrel
  refine ⟨rfl, ?_⟩
  have := hI.old
  rwa [hI.base] at this
theorem bytes_rel {W : World} {a : Option Addr} {len cap : Nat} {zs : List Int} (h : (a = none ∧ len = 0 ∧ cap = 0 ∧ zs = []) ∨ ∃ x, a = some x ∧ x.block < W.heap.size ∧ len ≤ cap ∧ cap ≤ maxLen ∧ len ≤ zs.length ∧ (∀ i, i < zs.length → W.cell? (x.add i) = some (.int .u8 (zs.getD i 0))) ∧ ∀ n ∈ zs, 0 ≤ n ∧ n < 256) :
    ∃ c : List UInt8, c.length = len ∧ Rel (G0 W) W (.slc 1 (aBytes c) .no) (.slice a len cap) := by
  rcases h with ⟨rfl, rfl, rfl, rfl⟩ | ⟨x, rfl, hx, hl, hm, hz, hc, hn⟩
  · exact ⟨[], rfl, (Weak.nils 1 .no (.inl rfl)).go _ _ _ .nils⟩
  · refine ⟨(zs.take len).map fun z => UInt8.ofNat z.toNat, by simp; omega, ?_⟩
    have hval : ∀ i (z : Int), zs[i]? = some z → ((UInt8.ofNat z.toNat).toNat : Int) = z := fun i z hz => by
      have := hn z (List.mem_of_getElem? hz)
      simp
      omega
    refine .slc (vs := (zs.take len).map fun z => Value.int .u8 z) (by simp [aBytes]; omega) hl hm ?_ ?_ ?_ trivial
    · intro y hy
      simp only [aBytes, List.mem_map] at hy
      obtain ⟨b, _, rfl⟩ := hy
      exact ⟨rfl, fun c hc => by simp [AV.cells, aByte] at hc; subst hc; rfl⟩
    · have : ∀ l : List Int, (∀ z ∈ l, 0 ≤ z ∧ z < 256) → RelL (G0 W) W ((aBytes (l.map fun z => UInt8.ofNat z.toNat)).flatMap AV.cells) (l.map fun z => Value.int .u8 z) := by
        intro l
        induction l with
        | nil => intro _; exact .nil
        | cons z l ih =>
          intro h
          have e : ((UInt8.ofNat z.toNat).toNat : Int) = z := by
            have := h z (by simp)
            simp; omega
          have hr : Rel (G0 W) W (.int .u8 ((UInt8.ofNat z.toNat).toNat : Int)) (.int .u8 z) := by rw [e]; exact .int _ _
          exact .cons hr (ih fun y hy => h y (by simp [hy]))
      exact this _ fun z hz => hn z (List.mem_of_mem_take hz)
    · intro k v hk
      have hlt : k < len := by
        obtain ⟨h, _⟩ := List.getElem?_eq_some_iff.1 hk
        simp at h; omega
      have hspot : x.spot = none := by
        have h0 := hc 0 (by omega)
        simp only [Addr.add, if_true, World.cell?] at h0
        cases hs : x.spot with
        | none => rfl
        | some s => rw [hs] at h0; split at h0 <;> simp at h0
      obtain ⟨b, o, sp⟩ := x
      simp only at hspot hx
      subst hspot
      refine ⟨b, o, rfl, .inl hx, ?_⟩
      have h1 := hc k (by omega)
      have hz1 : zs[k]? = some (zs.getD k 0) := by simp [List.getD]; rw [List.getElem?_eq_getElem (by omega)]; rfl
      have hv : v = .int .u8 (zs.getD k 0) := by
        rw [List.getElem?_map, List.getElem?_take, if_pos hlt, hz1] at hk
        exact (Option.some.inj hk).symm
      rw [hv, ← h1]
      unfold Addr.add
      by_cases hk0 : k = 0
      · subst hk0; simp
      · simp [hk0]
theorem str_rel {W : World} (s : ByteArray) : Rel (G0 W) W (.str s.data.toList) (.string s) := by
  have := Rel.str (G := G0 W) (w := W) s.data.toList
  simpa using this
end Go.Al
end
section
set_option linter.unusedVariables false
set_option linter.unusedSimpArgs false
namespace Go.Al
open Go.RowKit
theorem CallP.tells {P : Program} {w0 : World} {f : FuncId} {args : List AV} {r : AV} (h : ∀ G w vs, Below w0.heap.size w0 w → RelL G w args vs → Calls P f vs.toArray w (fun e w' => ∃ v, e = .returned v ∧ Rel G w' r v ∧ Below w.heap.size w w')) : CallP P w0 f args r := fun σ => ⟨fun G w vs hI hr => by
  refine (h G w vs (hI.base ▸ hI.old) hr).mono ?_
  rintro e w' ⟨v, rfl, hv, hb⟩
  exact ⟨v, r, σ, G, rfl, ⟨rfl, rfl⟩, hI.below hb, .below hb, hv⟩⟩
theorem cell_below {w w' : World} {m b o : Nat} {v : Value} (hb : Below m w w') (hm : w.heap.size ≤ m) (h : w.cell? ⟨b, o, none⟩ = some v) : w'.cell? ⟨b, o, none⟩ = some v := by
  have := hb.cell (p := ⟨b, o, none⟩) (Nat.lt_of_lt_of_le (lt_of_cell h) hm)
  rw [this]; exact h
theorem setBox_comm {σ : St} {a b : Nat} {cs ds : List AV} (h : a ≠ b) : (σ.setBox a cs).setBox b ds = (σ.setBox b ds).setBox a cs := by
  simp only [St.setBox, St.mk.injEq, and_true]
  funext j
  by_cases h1 : j = a <;> by_cases h2 : j = b <;> simp_all
theorem a_minE {P : Program} {E : AEnv} {x y : Operand} {ts : Array TypeId} {a b c : Int} (hx : aeval E x = .int .i64 a) (hy : aeval E y = .int .i64 b) (h : min a b = c) : Yields P E (.call ⟨.builtin .min, #[x, y], ts⟩) (.int .i64 c) := h ▸ a_min hx hy
theorem le_in {σ s : St} {b : Nat} {cs : List AV} (h : St.Le (σ.setBox b cs) s) {c : Nat} {ds : List AV} (hc : σ.box c = none) (hne : c ≠ b) : St.Le (σ.setBox b cs) (s.setBox c ds) := le_setBox h (by rw [setBox_ne hne]; exact hc)
theorem ok_indexVp {P : Program} {E : AEnv} {o : Oper} (t : TypeId) (x i : Operand) (ho : o.op = .indexAddr t x i) {len e sz : Nat} {cs : List AV} {k : IntKind} {n : Int} {r : AV} (hu : P.underlying t = some (.array len e)) (hs : (P.info? e).map (·.size) = some sz) (hX : aeval E x = .vp (.agg cs)) (hJ : aeval E i = .int k n) (h0 : 0 ≤ n ∧ n < len) (hp : aPart P e cs (n.toNat * sz) = some r) : OpOk P o E (.vp r) := .plain fun G w a hE => by
  have hx := hE.get x (by simp [ho, Op.operands, Call.operands])
  have hi := hE.get i (by simp [ho, Op.operands, Call.operands])
  have he : (execOp a.eval o) = (Instr.indexAt t (a.eval x) (a.eval i) >>= fun v => pure (.value v)) := by simp only [execOp, ho]
  rw [he]
  rw [hX] at hx; rw [hJ] at hi
  obtain ⟨inf, hinf, hsz⟩ := Option.map_eq_some_iff.1 hs
  generalize a.eval x = v at *
  generalize a.eval i = u at *
  cases hi
  cases hx with
  | vp h1 hr hl =>
    rename_i b q vs
    exact ⟨.pointer (some ⟨b, q + n.toNat * sz, none⟩), by simp [Instr.indexAt, asIntOf, run_underlying hu, h0.1, h0.2, run_size hinf, hsz, addr_add, Instr.sureAddr], aPart_vp h1 hr hl hp⟩
section
variable {P : Program} {w0 : World} {ds : List (Option Tmp)} {kind : Kd} {Q : AEnv → St → Prop} {σ : St} {o : Oper} {l : List Oper} {i : Nat} {L : List (Nat × AV)}
theorem r_indexV1 {t d : Nat} {x j : Operand} {len e sz : Nat} {cs : List AV} {k : IntKind} {n : Int} {r : AV} (ho : o.op = .indexAddr t x j) (hd : o.dst = some d) (hX : aeval (env L) x = .vp (.agg cs)) (hJ : aeval (env L) j = .int k n) (hw : aWantL ds (env L) o = some true) (hu : TyU P t (.array len e)) (hs : TyS P e sz) (ha : TyA P e false) (h0 : 0 ≤ n ∧ n < len) (hc : cs[n.toNat * sz]? = some r)
    (h : RunsL P w0 ds kind Q (i + 1) l (env ((d, .vp r) :: L)) σ) : RunsL P w0 ds kind Q i (o :: l) (env L) σ := by
  obtain ⟨dd, h1, h2⟩ := ha.h
  have hi := hs.h
  obtain ⟨inf, hinf, hsz⟩ := Option.map_eq_some_iff.1 hi
  unfold RunsL
  simp only [hw]
  refine .pure _ (ok_indexVp t x j ho hu.h hs.h hX hJ h0 (r := r) ?_).pure ?_
  · simp [aPart, h1, h2, hinf, hc]
  · rw [hd, upd_env]; exact h
end
def kindOfH (ls ks : List Nat) (l : List Oper) (i : Nat) : Nat :=
  match l[i]? with
  | none => 0
  | some o => match o.op with
    | .load .. => 3
    | .alloc _ | .box .. | .store .. => 2
    | .call ⟨.builtin .append, _, _⟩ => 2
    | .call ⟨.value (.func f), _, _⟩ => if ks.contains f then 4 else if ls.contains f then 2 else 0
    | _ => 0
theorem W.regionDH {P : Program} {w0 : World} {n : Nat} {id : Nat} {l : List Oper} {ds : List (Option Tmp)} {Q : Exit → AEnv → St → Prop} {E : AEnv} {σ : St} (b : Nat) {cs : List AV} (ls ks : List Nat) (hb : σ.box b = some cs) (hm : P.follows .mixedOrders = true) (ho : orderOk l.toArray (kindOfH ls ks l) (List.range l.length) = true) (hd : dstsOk n l.toArray = true) (hds : l.map (·.dst) = ds) (h : RunsL P w0 ds ⟨kindOfH ls ks l, b, some cs⟩ (fun E σ => Q .normal E σ) 0 l E σ) :
    W P w0 n (.region id l.toArray true) Q E σ := .regionDL hm ⟨kindOfH ls ks l, b, some cs⟩ ho hd hds h
theorem W.regionDHP {P : Program} {w0 : World} {n : Nat} {id : Nat} {l l' : List Oper} {ds : List (Option Tmp)} {Q : Exit → AEnv → St → Prop} {E : AEnv} {σ : St} (b : Nat) {cs : List AV} (ord : List Nat) (ls ks : List Nat) (hb : σ.box b = some cs) (hm : P.follows .mixedOrders = true) (ho : orderOk l.toArray (kindOfH ls ks l) ord = true) (hd : dstsOk n l.toArray = true) (hds : l.map (·.dst) = ds) (hl : (ord.filterMap fun i => l[i]?) = l')
    (h : RunsL P w0 ds ⟨fun i => kindOfH ls ks l (ord.getD i 0), b, some cs⟩ (fun E σ => Q .normal E σ) 0 l' E σ) : W P w0 n (.region id l.toArray true) Q E σ := by
  subst hds; subst hl
  refine .regionD hm ⟨kindOfH ls ks l, b, some cs⟩ ord ho hd (runsL_perm ord ⟨fun i => kindOfH ls ks l (ord.getD i 0), b, some cs⟩ 0 E σ (fun j => by show kindOfH ls ks l (ord.getD (0 + j) 0) = _; rw [Nat.zero_add]) rfl ?_ h)
  intro i hi
  simpa using order_lt ho i hi
section
variable {P : Program} {w0 : World} {ds : List (Option Tmp)} {kind : Kd} {Q : AEnv → St → Prop} {σ : St} {o : Oper} {l : List Oper} {i : Nat} {L : List (Nat × AV)}
theorem r_loadH {t : Nat} {ty : TypeId} {x : Operand} {b off : Nat} {cs : List AV} {r : AV} (ho : o.op = .load ty x) (hd : o.dst = some t) (hx : aeval (env L) x = .ptr b off) (hk : kind i = 3) (hb : kind.b = b) (hc : kind.cs = some cs) (hw : aWantL ds (env L) o = some true) (hs : σ.box b = some cs) (hr : aLoadBox P ty cs off = some r) (k : RunsL P w0 ds kind Q (i + 1) l (env ((t, r) :: L)) σ) : RunsL P w0 ds kind Q i (o :: l) (env L) σ := by
  unfold RunsL
  simp only [hw]
  have hH : ∀ s, kind.held s ↔ s.box b = some cs := fun s => by
    unfold Kd.held
    rw [hb, hc]
    exact ⟨fun h => h cs rfl, fun h c e => by cases e; exact h⟩
  refine .held r hk ((hH σ).2 hs) (fun s h => w_load ty x ho hx ((hH s).1 h) hr) ?_
  rw [hd, upd_env]; exact k
theorem r_callH {t : Nat} {x : Operand} {args : Array Operand} {ts : Array TypeId} {f : FuncId} {first cap as : List AV} {r : AV} {σ' : St} {b : Nat} {cs : List AV} (ho : o.op = .call { callee := .value x, args, argTypes := ts }) (hd : o.dst = some t) (hk : kind i = 4) (hb : kind.b = b) (hc : kind.cs = some cs) (hw : aWantL ds (env L) o = some true) (hx : aeval (env L) x = .fn (.func f) first cap)
    (ha : first ++ evals (env L) args.toList ++ cap = as) (hf : OwnF P f) (h : CallW P w0 f as σ (fun r' s => r' = r ∧ s = σ')) (hs : σ'.box b = some cs) (k : RunsL P w0 ds kind Q (i + 1) l (env ((t, r) :: L)) σ') : RunsL P w0 ds kind Q i (o :: l) (env L) σ := by
  unfold RunsL
  simp only [hw]
  refine .keeps hk ?_
  subst ha
  rw [evals_eq] at h
  refine OpW.mono (op_call ho hx hf.h h) ?_
  rintro r' s ⟨rfl, rfl⟩
  refine ⟨?_, fun _ => ?_⟩
  · rw [hd, upd_env]; exact k
  · unfold Kd.held
    rw [hb, hc]
    intro c e
    cases e
    exact hs
end
end Go.Al
end
section
set_option linter.unusedVariables false
set_option linter.unusedSimpArgs false
namespace Go.Al
open Go.RowKit
theorem relL_und {G : Gh} {w : World} : ∀ vs : List Value, RelL G w (List.replicate vs.length .und) vs
  | [] => .nil
  | v :: vs => .cons (.und v) (relL_und vs)
theorem length_zeroCells (z : Array Value) (n : Nat) : (Builtin.zeroCells z n).toList.length = n * z.size := by simp [Builtin.zeroCells]
section
variable {P : Program} {w0 : World} {E : AEnv} {σ : St} {o : Oper} {K : AV → St → Prop}
theorem w_appendN {t u e : TypeId} {i : TypeInfo} {z : Value} (T : AppT P t u e i z) (s x : Operand) (ho : o.op = .call { callee := .builtin .append, args := #[s, x], argTypes := #[t, u] }) {ys : List AV}
    (hs : aeval E s = .nils) (hx : aSrc i.size (aeval E x) = some ys) (hne : ys ≠ []) (hf : AppFits i ys.length)
    (hk : ∀ b cap, σ.box b = none → ys.length ≤ cap → K (.msl b 0 ys.length cap) (σ.setBox b (ys.flatMap AV.cells ++ List.replicate ((cap - ys.length) * i.size) .und))) : OpW P w0 o E σ K := .value fun G w a hI hE => by
  have hsr := hE.get s (by simp [ho, Op.operands, Call.operands])
  rw [hs] at hsr
  have hxr := hE.get x (by simp [ho, Op.operands, Call.operands])
  have he : execOp a.eval o = (Builtin.append_ #[t, u] o.type #[a.eval s, a.eval x] >>= fun v => pure (.value v)) := by simp [execOp, ho, resolve, invoke, builtin]
  rw [he]
  generalize a.eval s = vsl at *
  generalize a.eval x = v at *
  obtain ⟨hl, vs, hfc, hrel, hvl, hys⟩ := src_run (P := P) hx hxr
  cases hsr
  have hpos : 0 < ys.length := List.length_pos_iff.2 hne
  obtain ⟨_, h2⟩ := append_run T o.type (A := none) (len := 0) (cap := 0) hl hfc
  let w1 : World := { w with drawn := w.drawn + 1 }
  have hA : Alike0 w w1 := ⟨rfl, rfl, rfl, rfl⟩
  obtain ⟨_, us, hfc', hrel', hul, _⟩ := src_run (P := P) hx (hxr.ext hA.ext)
  obtain ⟨nc, hnc, hnl, hrun⟩ := h2 (by omega) (by rw [Nat.zero_add]; exact hf.1) (by have := hf.2; simp only [maxLen] at this; omega) #[] us.toArray rfl hfc'
  rw [Nat.zero_add] at hnc hrun
  obtain ⟨b, hb, hsb⟩ := fresh_box (hA.inv hI)
  have hlz : (Builtin.zeroCells z.cells (nc - ys.length)).toList.length = (nc - ys.length) * i.size := by rw [length_zeroCells, T.hs]
  have hcells : RelL G w1 (ys.flatMap AV.cells ++ List.replicate ((nc - ys.length) * i.size) .und) (#[] ++ us.toArray ++ Builtin.zeroCells z.cells (nc - ys.length)).toList := by
    have := hrel'.append (relL_und (G := G) (w := w1) (Builtin.zeroCells z.cells (nc - ys.length)).toList)
    rw [hlz] at this
    simpa using this
  obtain ⟨k1, k2⟩ := inv_box (hA.inv hI) hb e hcells
  exact ⟨_, _, _, _, _, by rw [Sem.run_bind, hrun]; rfl, hk b nc hsb hnc, k1, hA.ext.trans k2, .msl (m := w1.heap.size) (by simp [Gh.withBox]) hnc (by simp only [maxLen]; omega)⟩
theorem w_appendM {t u e : TypeId} {i : TypeInfo} {z : Value} (T : AppT P t u e i z) (s x : Operand) (ho : o.op = .call { callee := .builtin .append, args := #[s, x], argTypes := #[t, u] }) {ys cs : List AV} {b n cap : Nat}
    (hs : aeval E s = .msl b 0 n cap) (hb : σ.box b = some cs) (hcl : cap * i.size ≤ cs.length) (hn : n ≤ cap) (hx : aSrc i.size (aeval E x) = some ys) (hf : AppFits i (n + ys.length))
    (hk1 : n + ys.length ≤ cap → K (.msl b 0 (n + ys.length) cap) (σ.setBox b (setL cs (n * i.size) (ys.flatMap AV.cells))))
    (hk2 : ∀ b' cap', σ.box b' = none → n + ys.length ≤ cap' → K (.msl b' 0 (n + ys.length) cap') (σ.setBox b' (cs.take (n * i.size) ++ ys.flatMap AV.cells ++ List.replicate ((cap' - (n + ys.length)) * i.size) .und))) : OpW P w0 o E σ K := .value fun G w a hI hE => by
  have hsr := hE.get s (by simp [ho, Op.operands, Call.operands])
  rw [hs] at hsr
  have hxr := hE.get x (by simp [ho, Op.operands, Call.operands])
  have he : execOp a.eval o = (Builtin.append_ #[t, u] o.type #[a.eval s, a.eval x] >>= fun v => pure (.value v)) := by simp [execOp, ho, resolve, invoke, builtin]
  rw [he]
  generalize a.eval s = vsl at *
  generalize a.eval x = v at *
  obtain ⟨hl, vs, hfc, hrel, hvl, hys⟩ := src_run (P := P) hx hxr
  cases hsr with
  | msl hgb hc hm =>
    rename_i mm
    obtain ⟨m, c, T', k1, k2, k3, k4, k5⟩ := (hI.box b cs hb).ex
    obtain rfl : m = mm := by rw [k1] at hgb; exact Option.some.inj hgb
    have hcsz : cs.length = c.size := by rw [← k4.length]; simp
    obtain ⟨h1, h2⟩ := append_run T o.type (A := some ⟨m, 0, none⟩) (len := n) (cap := cap) hl hfc
    by_cases hroom : n + ys.length ≤ cap
    · have hmul : (n + ys.length) * i.size ≤ cap * i.size := Nat.mul_le_mul_right _ hroom
      have hadd : (n + ys.length) * i.size = n * i.size + ys.length * i.size := Nat.add_mul ..
      obtain ⟨w', hrun, R⟩ := run_storeCells P m T' (0, 0) (n * i.size) vs 0 c w k3 (.inl rfl) (by omega) (relL_oneCell hrel (fun x hx => by
        obtain ⟨y, hy, hc⟩ := List.mem_flatMap.1 hx
        exact (hys y hy).2 x hc))
      rw [Nat.add_zero] at R
      obtain ⟨hI', ex⟩ := hI.write (cs' := setL cs (n * i.size) (ys.flatMap AV.cells)) hb k1 k3 k5 k2 R (fun e => setAll_rel (n * i.size) (hrel.ext e) (k4.ext e))
      refine ⟨.slice (some ⟨m, 0, none⟩) (n + ys.length) cap, w', _, _, _, ?_, hk1 hroom, hI', ex, .msl k1 hroom hm⟩
      rw [Sem.run_bind, h1 hroom]
      simp only [addr_add, Nat.zero_add, hrun, Result.andThen_ok]
      rfl
    · let w1 : World := { w with drawn := w.drawn + 1 }
      have hA : Alike0 w w1 := ⟨rfl, rfl, rfl, rfl⟩
      obtain ⟨_, us, hfc', hrel', hul, _⟩ := src_run (P := P) hx (hxr.ext hA.ext)
      have hfirst : (Builtin.firstCells i.size n (.slice (some ⟨m, 0, none⟩) n cap)).run P w1 = .ok (c.toList.take (n * i.size)).toArray w1 := by
        have hnm : n * i.size ≤ cap * i.size := Nat.mul_le_mul_right _ hn
        have hlen : (c.toList.take (n * i.size)).length = n * i.size := by simp; omega
        simp only [Builtin.firstCells]
        have := run_loadCells_list (P := P) w1 ⟨m, 0, none⟩ (c.toList.take (n * i.size)) (fun j v hj => by
          rw [addr_add, Nat.zero_add, cell_block (w := w1) (c := c) (T := T') (fr := (0, 0)) k3]
          rw [List.getElem?_take] at hj
          split at hj
          · simpa using hj
          · cases hj)
        rw [hlen] at this
        exact this
      obtain ⟨nc, hnc, hnl, hrun⟩ := h2 (by omega) hf.1 (by have := hf.2; simp only [maxLen] at this; omega) (c.toList.take (n * i.size)).toArray us.toArray hfirst hfc'
      obtain ⟨b', hb', hsb⟩ := fresh_box (hA.inv hI)
      have hlz : (Builtin.zeroCells z.cells (nc - (n + ys.length))).toList.length = (nc - (n + ys.length)) * i.size := by rw [length_zeroCells, T.hs]
      have hcells : RelL G w1 (cs.take (n * i.size) ++ ys.flatMap AV.cells ++ List.replicate ((nc - (n + ys.length)) * i.size) .und) ((c.toList.take (n * i.size)).toArray ++ us.toArray ++ Builtin.zeroCells z.cells (nc - (n + ys.length))).toList := by
        have := (((k4.ext hA.ext).take (n * i.size)).append hrel').append (relL_und (G := G) (w := w1) (Builtin.zeroCells z.cells (nc - (n + ys.length))).toList)
        rw [hlz] at this
        simpa using this
      obtain ⟨q1, q2⟩ := inv_box (hA.inv hI) hb' e hcells
      exact ⟨_, _, _, _, _, by rw [Sem.run_bind, hrun]; rfl, hk2 b' nc hsb hnc, q1, hA.ext.trans q2, .msl (m := w1.heap.size) (by simp [Gh.withBox]) hnc (by simp only [maxLen]; omega)⟩
end
theorem W.freezeS {P : Program} {w0 : World} {n : Nat} {c : Code} {Q : Exit → AEnv → St → Prop} {L : List (Nat × AV)} {σ : St} {b : Nat} {cs : List AV} {σ' : St} (k sz : Nat) (xs : List AV) {cap : Nat} (hb : σ.box b = some cs) (hk : env L k = .msl b 0 xs.length cap) (hx : cs.take (xs.length * sz) = xs.flatMap AV.cells) (hsz : ∀ x ∈ xs, x.cells.length = sz ∧ ∀ c ∈ x.cells, c.one = true) (hl : St.Le σ' σ) (hn : σ'.box b = none)
    (h : W P w0 n c Q (env ((k, .slc sz xs .no) :: L)) σ') : W P w0 n c Q (env L) σ := ⟨fun G w a hI hE hs hd => by
  have hp := hE.get k
  rw [hk] at hp
  generalize hv : a.tmps.getD k undef = v at hp
  cases hp with
  | msl hgb hcap hm =>
    rename_i m
    obtain ⟨hI', e⟩ := hI.freeze hb hl hn hgb
    obtain ⟨m', c', T, h1', h2, h3, h4, h5⟩ := (hI.box b cs hb).ex
    obtain rfl : m' = m := by rw [h1'] at hgb; exact Option.some.inj hgb
    have hE' : RelE { G with imm := fun b' o => G.imm b' o ∨ b' = m' } w (env ((k, .slc sz xs .no) :: L)) a := ⟨fun t => by
      by_cases ht : t = k
      · subst ht
        rw [env_at, if_pos rfl, hv]
        refine .slc (vs := c'.toList.take (xs.length * sz)) rfl hcap hm hsz (by rw [← hx]; exact (h4.ext e).take _) ?_ trivial
        intro j u hj
        refine ⟨m', 0, rfl, .inr (.inr rfl), ?_⟩
        rw [List.getElem?_take] at hj
        split at hj
        · rw [cell_block h3, Nat.zero_add]; simpa using hj
        · cases hj
      · rw [env_at, if_neg ht]
        exact (hE.get t).ext e⟩
    obtain go := h.go _ w a hI' hE' hs hd
    refine wp_mono go ?_
    rintro ex a' w' ⟨E', s', G', q, r1, r2, r3, r4, r5⟩
    exact ⟨E', s', G', q, r1, r2, r3, r4, e.trans r5⟩⟩
section
variable {P : Program} {w0 : World} {ds : List (Option Tmp)} {kind : Kd} {Q : AEnv → St → Prop} {σ : St} {o : Oper} {l : List Oper} {i : Nat} {L : List (Nat × AV)}
theorem r_appendN {t : Nat} {a b sz bytes : Nat} {s x : Operand} {v : AV} {ys : List AV} (ho : o.op = .call { callee := .builtin .append, args := #[s, x], argTypes := #[a, b] }) (hd : o.dst = some t) (hk : kind i = 2) (hi : AppI P a b sz bytes) (hw : aWantL ds (env L) o = some true)
    (hs : aeval (env L) s = .nils) (hx : aeval (env L) x = v) (hy : aSrc sz v = some ys) (hne : ys ≠ []) (hf : ys.length * bytes ≤ 140737488355328)
    (k : ∀ b cap, σ.box b = none → ys.length ≤ cap → RunsL P w0 ds kind Q (i + 1) l (env ((t, .msl b 0 ys.length cap) :: L)) (σ.setBox b (ys.flatMap AV.cells ++ List.replicate ((cap - ys.length) * sz) .und))) : RunsL P w0 ds kind Q i (o :: l) (env L) σ := by
  subst hx
  obtain ⟨e, inf, z, T, rfl, rfl, hpos⟩ := hi.h
  unfold RunsL
  simp only [hw]
  have hfit : AppFits inf ys.length := ⟨hf, by
    have : ys.length ≤ ys.length * inf.bytes := Nat.le_mul_of_pos_right _ hpos
    simp only [maxLen]; omega⟩
  refine .loud hk (w_appendN T s x ho hs hy hne hfit fun b cap h1 h2 => ?_)
  rw [hd, upd_env]
  exact k b cap h1 h2
theorem r_appendM {t : Nat} {a b sz bytes : Nat} {s x : Operand} {v : AV} {ys cs : List AV} {bx n cap : Nat} (ho : o.op = .call { callee := .builtin .append, args := #[s, x], argTypes := #[a, b] }) (hd : o.dst = some t) (hk : kind i = 2) (hi : AppI P a b sz bytes) (hw : aWantL ds (env L) o = some true)
    (hs : aeval (env L) s = .msl bx 0 n cap) (hb : σ.box bx = some cs) (hcl : cap * sz ≤ cs.length) (hn : n ≤ cap) (hx : aeval (env L) x = v) (hy : aSrc sz v = some ys) (hf : (n + ys.length) * bytes ≤ 140737488355328)
    (k1 : n + ys.length ≤ cap → RunsL P w0 ds kind Q (i + 1) l (env ((t, .msl bx 0 (n + ys.length) cap) :: L)) (σ.setBox bx (setL cs (n * sz) (ys.flatMap AV.cells))))
    (k2 : ∀ b' cap', σ.box b' = none → n + ys.length ≤ cap' → RunsL P w0 ds kind Q (i + 1) l (env ((t, .msl b' 0 (n + ys.length) cap') :: L)) (σ.setBox b' (cs.take (n * sz) ++ ys.flatMap AV.cells ++ List.replicate ((cap' - (n + ys.length)) * sz) .und))) : RunsL P w0 ds kind Q i (o :: l) (env L) σ := by
  subst hx
  obtain ⟨e, inf, z, T, rfl, rfl, hpos⟩ := hi.h
  unfold RunsL
  simp only [hw]
  have hfit : AppFits inf (n + ys.length) := ⟨hf, by
    have : n + ys.length ≤ (n + ys.length) * inf.bytes := Nat.le_mul_of_pos_right _ hpos
    simp only [maxLen]; omega⟩
  refine .loud hk (w_appendM T s x ho hs hb hcl hn hy hfit (fun h => ?_) fun b' cap' h1 h2 => ?_)
  · rw [hd, upd_env]; exact k1 h
  · rw [hd, upd_env]; exact k2 b' cap' h1 h2
end
theorem a_lenM {P : Program} {E : AEnv} {x : Operand} {t e : TypeId} [hu : TyU P t (.slice e)] {b off n cap : Nat} (h : aeval E x = .msl b off n cap) : Yields P E (.call ⟨.builtin .len, #[x], #[t]⟩) (.int .i64 n) := by
  refine ⟨?_⟩
  simp [aop, aBuiltin, aLen, hu.h, h]
end Go.Al
end
section
set_option linter.unusedVariables false
set_option linter.unusedSimpArgs false
namespace Go.Al
open Go.RowKit
def eqCell : AV → AV → Option Bool
  | .int k a, .int k' b => if k = k' then some (a == b) else none
  | .bool a, .bool b => some (a == b)
  | .str a, .str b => some (a == b)
  | _, _ => none
def eqCells : List AV → List AV → Option Bool
  | [], [] => some true
  | x :: xs, y :: ys => match eqCell x y, eqCells xs ys with
    | some a, some b => some (a && b)
    | _, _ => none
  | _, _ => none
def cellD : AV → TypeDesc → Bool
  | .int k _, .int k' => k == k'
  | .bool _, .bool => true
  | .str _, .string => true
  | _, _ => false
def flatFrom (P : Program) : Nat → List Field → List AV → Bool
  | _, [], [] => true
  | k, f :: fs, x :: xs => (f.name != "_") && (f.offset == k) && (((P.underlying f.type).map (cellD x)).getD false) && flatFrom P (k + 1) fs xs
  | _, _, _ => false
class FlatEq (P : Program) (t : TypeId) : Prop where
  h : (∃ fs : List Field, P.underlying t = some (.struct fs.toArray)) ∧ P.stoodInHeld t = false ∧ P.eqGuardType P.depth t = false
theorem run_isAgg_cell {P : Program} {w : World} {t : TypeId} {x : AV} {d : TypeDesc} (hu : P.underlying t = some d) (hc : cellD x d = true) : (isAgg t).run P w = .ok false w := by
  rw [run_isAgg hu]
  cases x <;> cases d <;> simp [cellD] at hc <;> rfl
theorem run_part_cell {P : Program} {w : World} {t : TypeId} {x : AV} {d : TypeDesc} {cs : Array Value} {k : Nat} {v : Value} (hu : P.underlying t = some d) (hc : cellD x d = true) (hv : cs[k]? = some v) : (part t cs k).run P w = .ok v w := by
  unfold part
  rw [Sem.run_bind, run_isAgg_cell hu hc]
  simp [hv]
theorem run_eqCell {P : Program} {G : Gh} {w : World} {d : Nat} {t : TypeId} {x y : AV} {u v : Value} {D : TypeDesc} {b : Bool} (hu : P.underlying t = some D) (hc : cellD x D = true) (hx : Rel G w x u) (hy : Rel G w y v) (h : eqCell x y = some b) : (Op.equalIn (d + 1) t u v).run P w = .ok b w := by
  unfold eqCell at h
  split at h
  · split at h
    · rename_i k a k' b' hk
      subst hk
      cases h
      cases hx; cases hy
      cases D <;> simp [cellD] at hc
      exact run_equalIn_int w d t _ _ _ _ hu
    · cases h
  · cases h
    cases hx; cases hy
    cases D <;> simp [cellD] at hc
    exact run_equalIn_bool' w d t _ _ hu
  · cases h
    cases hx; cases hy
    cases D <;> simp [cellD] at hc
    rw [run_equalIn_string w d t _ _ hu]
    simp
  · cases h
theorem run_eqFields {P : Program} {G : Gh} {w : World} (d : Nat) {X Y : Array Value} : ∀ (fs : List Field) (k : Nat) (xs ys : List AV) (b : Bool), flatFrom P k fs xs = true → RelL G w xs (X.toList.drop k) → RelL G w ys (Y.toList.drop k) → eqCells xs ys = some b → (Op.eqFields (d + 1) X Y fs).run P w = .ok b w
  | [], k, [], ys, b, hf, hx, hy, h => by
    cases ys with
    | nil => simp only [eqCells, Option.some.injEq] at h; subst h; rfl
    | cons y ys => simp [eqCells] at h
  | f :: fs, k, x :: xs, ys, b, hf, hx, hy, h => by
    cases ys with
    | nil => simp [eqCells] at h
    | cons y ys =>
      simp only [flatFrom, Bool.and_eq_true, bne_iff_ne, ne_eq, beq_iff_eq] at hf
      obtain ⟨⟨⟨hn, ho⟩, hd⟩, hrest⟩ := hf
      cases hu : P.underlying f.type with
      | none => rw [hu] at hd; cases hd
      | some D =>
        rw [hu] at hd
        have hd : cellD x D = true := hd
        rw [eqCells] at h
        cases ha : eqCell x y with
        | none => rw [ha] at h; simp at h
        | some a =>
          cases hb : eqCells xs ys with
          | none => rw [ha, hb] at h; simp at h
          | some b' =>
            rw [ha, hb] at h
            simp only [Option.some.injEq] at h
            obtain ⟨u, hu', hxu⟩ := hx.get (i := 0) rfl
            obtain ⟨v, hv', hyv⟩ := hy.get (i := 0) rfl
            have hX : X[f.offset]? = some u := by rw [ho, ← Array.getElem?_toList]; rw [List.getElem?_drop] at hu'; simpa using hu'
            have hY : Y[f.offset]? = some v := by rw [ho, ← Array.getElem?_toList]; rw [List.getElem?_drop] at hv'; simpa using hv'
            have hx2 : RelL G w xs (X.toList.drop (k + 1)) := by
              have := hx.drop 1
              rw [List.drop_drop] at this
              simpa using this
            have hy2 : RelL G w ys (Y.toList.drop (k + 1)) := by
              have := hy.drop 1
              rw [List.drop_drop] at this
              simpa using this
            have ih := run_eqFields d fs (k + 1) xs ys b' hrest hx2 hy2 hb
            simp only [Op.eqFields, if_pos hn, Sem.run_bind, run_part_cell hu hd hX, run_part_cell hu hd hY, Result.andThen_ok, run_eqCell hu hd hxu hyv ha, Sem.run_ite]
            subst h
            cases a
            · simp
            · simp only [Bool.not_true, Bool.false_eq_true, if_false, Bool.true_and]
              exact ih
  | [], _, _ :: _, _, _, hf, _, _, _ => by simp [flatFrom] at hf
  | _ :: _, _, [], _, _, hf, _, _, _ => by simp [flatFrom] at hf
section
variable {P : Program} {E : AEnv} {o : Oper}
theorem ok_eqAgg {op : BinOp} {t yt : TypeId} {x y : Operand} (ho : o.op = .binOp op t x y yt) (hT : FlatEq P t) {xs ys : List AV} (hX : aeval E x = .agg xs) (hY : aeval E y = .agg ys) (hf : ∀ fs : List Field, P.underlying t = some (.struct fs.toArray) → flatFrom P 0 fs xs = true) {b : Bool} (hb : eqCells xs ys = some b) {r : AV} (hr : aEqOp op b = some r) : OpOk P o E r := .plain fun G w a hE => by
  have hx := hE.get x (by simp [ho, Op.operands])
  have hy := hE.get y (by simp [ho, Op.operands])
  rw [hX] at hx; rw [hY] at hy
  obtain ⟨⟨fs, h1⟩, h2, h3⟩ := hT.h
  have hf := hf fs h1
  generalize hu : a.eval x = u at hx
  generalize hv : a.eval y = v at hy
  cases hx with
  | @agg _ us _ rx =>
    cases hy with
    | @agg _ vs _ ry =>
      have hfo : P.fieldsOf t = fs.toArray := by unfold Program.fieldsOf; rw [h1]
      have hrun := run_eqFields (P := P) 9998 (X := us.toArray) (Y := vs.toArray) fs 0 xs ys b hf (by simpa using rx) (by simpa using ry) hb
      have heq : (Op.equalIn 10000 t (.agg us.toArray) (.agg vs.toArray)).run P w = .ok b w := by
        rw [run_equalIn_struct w 9999 t _ _ (by rw [hfo]; exact h1) h2, hfo]
        exact hrun
      have hg : (eqGuard op t x y (.agg us.toArray) (.agg vs.toArray)).run P w = .ok () w := run_eqGuard_agg w op t x y _ _ h3
      cases op <;> simp only [aEqOp, reduceCtorEq, Option.some.injEq] at hr
      · subst hr
        refine ⟨.bool b, ?_, .bool b⟩
        simp only [execOp, ho, hu, hv, Sem.run_bind, hg, Result.andThen_ok, run_eql_struct, heq]
        rfl
      · subst hr
        refine ⟨.bool (!b), ?_, .bool _⟩
        simp only [execOp, ho, hu, hv, Sem.run_bind, hg, Result.andThen_ok, run_neq_struct, heq]
        rfl
end
section
variable {P : Program} {w0 : World} {ds : List (Option Tmp)} {kind : Kd} {Q : AEnv → St → Prop} {σ : St} {o : Oper} {l : List Oper} {i : Nat} {L : List (Nat × AV)}
theorem r_eqAgg {op : BinOp} {t yt : TypeId} {d : Nat} {x y : Operand} {xs ys : List AV} {b : Bool} {r : AV} (ho : o.op = .binOp op t x y yt) (hd : o.dst = some d) (hX : aeval (env L) x = .agg xs) (hY : aeval (env L) y = .agg ys) (hT : FlatEq P t) (hw : aWantL ds (env L) o = some true) (hf : ∀ fs : List Field, P.underlying t = some (.struct fs.toArray) → flatFrom P 0 fs xs = true) (hb : eqCells xs ys = some b) (hr : aEqOp op b = some r)
    (h : RunsL P w0 ds kind Q (i + 1) l (env ((d, r) :: L)) σ) : RunsL P w0 ds kind Q i (o :: l) (env L) σ := by
  unfold RunsL
  simp only [hw]
  refine .pure _ (ok_eqAgg ho hT hX hY hf hb hr).pure ?_
  rw [hd, upd_env]; exact h
end
theorem a_quo8 {P : Program} {E : AEnv} {x y : Operand} {t yt : TypeId} {a b : Int} (hx : aeval E x = .int .u8 a) (hy : aeval E y = .int .u8 b) (h : (0 ≤ a ∧ a ≤ 255) ∧ 1 ≤ b) : Yields P E (.binOp .quo t x y yt) (.int .u8 (a / b)) := by
  refine a_binI hx hy ?_
  have hb : b ≠ 0 := by omega
  have h1 : a / b ≤ a := Int.ediv_le_self _ h.1.1
  have h2 : 0 ≤ a / b := Int.ediv_nonneg h.1.1 (by omega)
  have e : IntKind.u8.wrap (a.tdiv b) = a / b := by
    rw [Int.tdiv_eq_ediv_of_nonneg h.1.1]; exact IntWalk.u8_in _ (by omega)
  simp [aIntOp, hb, e]
theorem a_quo16 {P : Program} {E : AEnv} {x y : Operand} {t yt : TypeId} {a b : Int} (hx : aeval E x = .int .u16 a) (hy : aeval E y = .int .u16 b) (h : (0 ≤ a ∧ a ≤ 65535) ∧ 1 ≤ b) : Yields P E (.binOp .quo t x y yt) (.int .u16 (a / b)) := by
  refine a_binI hx hy ?_
  have hb : b ≠ 0 := by omega
  have h1 : a / b ≤ a := Int.ediv_le_self _ h.1.1
  have h2 : 0 ≤ a / b := Int.ediv_nonneg h.1.1 (by omega)
  have e : IntKind.u16.wrap (a.tdiv b) = a / b := by
    rw [Int.tdiv_eq_ediv_of_nonneg h.1.1]; exact IntWalk.u16_in _ (by omega)
  simp [aIntOp, hb, e]
end Go.Al
end
section
set_option linter.unusedVariables false
set_option linter.unusedSimpArgs false
namespace Go.Al

structure Row where
  key : List UInt8
  val : List UInt8
  deriving DecidableEq
def eBytes (l : List UInt8) : AV := .slc 1 (aBytes l) .no
def eRow (r : Row) : AV := .agg [.str r.key, eBytes r.val]
def eRows (l : List Row) : AV := .slc 2 (l.map eRow) .no
structure Msg where
  seq : Int
  body : List UInt8
  attr : List UInt8
  tries : Int
  until_ : Int
  dead : Bool
  why : List UInt8
  prio : Int
  deriving DecidableEq
def eMsg (m : Msg) : AV := .agg [.int .i64 m.seq, .str m.body, .str m.attr, .int .i64 m.tries, .int .i64 m.until_, .bool m.dead, .str m.why, .int .i64 m.prio]
structure Sub where
  id : Int
  name : List UInt8
  topic : List UInt8
  want : List UInt8
  lease : Int
  most : Int
  floor : Int
  acks : List Int
  queue : List Msg
  note : List UInt8
  deriving DecidableEq
def eInts (l : List Int) : AV := .slc 1 (l.map (.int .i64)) .no
def eMsgs (l : List Msg) : AV := .slc 8 (l.map eMsg) .no
def eSub (x : Sub) : AV := .agg [.int .i64 x.id, .str x.name, .str x.topic, .str x.want, .int .i64 x.lease, .int .i64 x.most, .int .i64 x.floor, eInts x.acks, eMsgs x.queue, .str x.note]
end Go.Al
end
