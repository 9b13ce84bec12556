/- The law GateParses returns true for every input, and its arguments read as before: the tied card. No conditions. This is part 2 of 7 of its proof; the parts are read in order. No conditions. -/
import Derived.Test.YtjcikceophcooaaDoorCGateParsesP1
import Derived.Laws.StructEq
import Derived.RangeFuncOwn
import Derived.Laws.Externs
import Derived.Lib.UnsafeStr
section
set_option linter.unusedVariables false
set_option linter.unusedSimpArgs false
namespace Go.Al
open Go.RowKit

class AppI (P : Program) (t u : TypeId) (sz bytes : outParam Nat) : Prop where
  h : ∃ e i z, AppT P t u e i z ∧ i.size = sz ∧ i.bytes = bytes ∧ 0 < bytes
theorem AppI.of {P : Program} {t u e sz bytes : Nat} {z : Value} (ht : P.underlying t = some (.slice e)) (hu : P.underlying u = some .string ∨ ∃ e', P.underlying u = some (.slice e')) (hs : (P.info? e).map (·.size) = some sz) (hb : (P.info? e).map (·.bytes) = some bytes)
    (hz : (P.info? e).bind (·.zero) = some z) (hc : z.cells.size = sz) (h0 : 0 < bytes) : AppI P t u sz bytes := ⟨by
  obtain ⟨i, hi, rfl⟩ := Option.map_eq_some_iff.1 hs
  obtain ⟨i', hi', rfl⟩ := Option.map_eq_some_iff.1 hb
  obtain rfl : i = i' := by rw [hi] at hi'; exact Option.some.inj hi'
  rw [hi] at hz
  exact ⟨e, i, z, ⟨ht, hu, hi, hz, hc⟩, rfl, rfl, h0⟩⟩
def Room (σ : St) (tk : Tok) : Prop := tk = .full ∨ ∃ q, tk = .own q ∧ σ.tok q = true
structure Moves (σ : St) (tk : Tok) (σ' : St) (tk' : Tok) : Prop where
  box : ∀ i cs, σ.box i = some cs → σ'.box i = some cs
  keep : ∀ p, σ.tok p = true → tk ≠ .own p → σ'.tok p = true ∧ tk' ≠ .own p
  room : Room σ' tk'
  obj : σ'.obj = σ.obj
theorem Moves.refl {σ : St} {tk : Tok} (h : Room σ tk) : Moves σ tk σ tk := ⟨fun _ _ h => h, fun p hp hn => ⟨hp, hn⟩, h, rfl⟩
theorem Moves.full (σ : St) : Moves σ .full σ .full := .refl (.inl rfl)
theorem Moves.trans {σ σ1 σ2 : St} {tk tk1 tk2 : Tok} (h : Moves σ tk σ1 tk1) (k : Moves σ1 tk1 σ2 tk2) : Moves σ tk σ2 tk2 :=
  ⟨fun i cs e => k.box i cs (h.box i cs e), fun p hp hn => by obtain ⟨h1, h2⟩ := h.keep p hp hn; exact k.keep p h1 h2, k.room, k.obj.trans h.obj⟩
theorem Moves.le {σ σ' : St} {tk' : Tok} (h : Moves σ .full σ' tk') : St.Le σ σ' := ⟨h.box, fun p hp => (h.keep p hp (by simp)).1, fun i o e => by rw [h.obj]; exact e⟩
theorem le_setBox {σ σ' : St} {b : Nat} {cs : List AV} (h : St.Le σ' σ) (hb : σ'.box b = none) : St.Le σ' (σ.setBox b cs) := ⟨fun i ds e => by
  have := h.box i ds e
  have hne : i ≠ b := by rintro rfl; rw [hb] at e; cases e
  simp [St.setBox, hne, this], fun p hp => h.tok p hp, h.obj⟩
theorem St.Le.trans {a b c : St} (h : St.Le a b) (k : St.Le b c) : St.Le a c := ⟨fun i cs e => k.box i cs (h.box i cs e), fun p e => k.tok p (h.tok p e), fun l o e => k.obj l o (h.obj l o e)⟩
theorem setBox_same {σ : St} {b : Nat} {cs : List AV} : (σ.setBox b cs).box b = some cs := by simp [St.setBox]
theorem setBox_ne {σ : St} {b c : Nat} {cs : List AV} (h : c ≠ b) : (σ.setBox b cs).box c = σ.box c := by simp [St.setBox, h]
theorem setBox_setBox {σ : St} {b : Nat} {cs ds : List AV} : (σ.setBox b cs).setBox b ds = σ.setBox b ds := by
  simp only [St.setBox]; congr 1; funext j; split <;> rfl
theorem spend_box (σ : St) (tk : Tok) : (σ.spend tk).box = σ.box := by cases tk <;> rfl
theorem spend_obj (σ : St) (tk : Tok) : (σ.spend tk).obj = σ.obj := by cases tk <;> rfl

section
variable {P : Program} {w0 : Base} {ds : List (Option Tmp)} {kind : Kd} {Q : AEnv → St → Prop} {σ : St} {o : Oper} {l : List Oper} {i : Nat} {L : List (Nat × AV)}
theorem spend_moves {tk : Tok} (hr : Room σ tk) {q : Nat} (hq : (σ.spend tk).tok q = false) : Moves σ tk ((σ.spend tk).setTok q true) (.own q) := by
  refine ⟨fun i cs e => by simpa [St.setTok, spend_box] using e, fun p hp hn => ?_, .inr ⟨q, rfl, by simp [St.setTok]⟩, by simp [St.setTok, spend_obj]⟩
  have hs : (σ.spend tk).tok p = true := by
    rcases hr with rfl | ⟨r, rfl, _⟩
    · exact hp
    · have : p ≠ r := fun e => hn (by rw [e])
      simp [St.spend, St.setTok, this, hp]
  have hne : p ≠ q := by rintro rfl; rw [hs] at hq; cases hq
  exact ⟨by simp [St.setTok, hne, hs], by simp; exact fun e => hne e.symm⟩
theorem ok_append0 {E : AEnv} {t u e : TypeId} {i : TypeInfo} {z : Value} (T : AppT P t u e i z) (s x : Operand) (ho : o.op = .call { callee := .builtin .append, args := #[s, x], argTypes := #[t, u] }) {xs : List AV}
    (hs : aBase i.size (aeval E s) = some (xs, .full)) (hx : aSrc i.size (aeval E x) = some []) : OpOk P o E (.slc i.size xs .full) := ⟨fun w0 G σ w a hI hE => by
  have hsr := base_rel hs (hE.get s (by simp [ho, Op.operands, Call.operands]))
  have hxr := hE.get x (by simp [ho, Op.operands, Call.operands])
  have he : execOp a.eval o = (Builtin.append_ #[t, u] o.type #[a.eval s, a.eval x] >>= fun v => pure (.value v)) := by simp [execOp, ho, resolve, invoke, builtin]
  rw [he]
  generalize a.eval s = vsl at *
  generalize a.eval x = v at *
  obtain ⟨hl, vs, hfc, hrel, hvl, hys⟩ := src_run (P := P) hx hxr
  cases hsr with
  | slc hn hc hm hsz hr hli htk =>
    rename_i A n cap vs0
    subst hn
    have hcap : cap = xs.length := htk
    subst hcap
    obtain ⟨h1, h2⟩ := append_run T o.type (A := A) (len := xs.length) (cap := xs.length) hl hfc
    have hvs : vs = [] := List.eq_nil_of_length_eq_zero (by simpa using hvl)
    subst hvs
    refine ⟨.slice A xs.length xs.length, w, G, ?_, hI, .refl G w, .slc rfl (Nat.le_refl _) hm hsz hr hli rfl⟩
    rw [Sem.run_bind, h1 (by simp)]
    cases A <;> simp [storeCells]⟩
theorem Moves.then {σ σ1 σ2 : St} {tk tk1 tk2 : Tok} (h : Moves σ tk σ1 tk1) (k : Moves σ1 .full σ2 tk2) : Moves σ tk σ2 tk2 :=
  ⟨fun i cs e => k.box i cs (h.box i cs e), fun p hp hn => by obtain ⟨h1, h2⟩ := h.keep p hp hn; exact k.keep p h1 (by simp), k.room, k.obj.trans h.obj⟩
theorem Moves.more {σ σ1 σ2 : St} {tk tk1 tk2 : Tok} (h : Moves σ tk σ1 tk1) (k : Moves σ1 .full σ2 tk2) : Moves σ tk σ2 tk1 :=
  ⟨fun i cs e => k.box i cs (h.box i cs e), fun p hp hn => by obtain ⟨h1, h2⟩ := h.keep p hp hn; exact ⟨(k.keep p h1 (by simp)).1, h2⟩, by
    rcases h.room with h | ⟨q, rfl, hq⟩
    · exact .inl h
    · exact .inr ⟨q, rfl, (k.keep q hq (by simp)).1⟩, k.obj.trans h.obj⟩
theorem CallW.room {f : FuncId} {args : List AV} {sz : Nat} {xs : List AV} (h : CallW P w0 f args σ (fun r σ' => ∃ tk, r = .slc sz xs tk ∧ Moves σ .full σ' tk)) : CallW P w0 f args σ (fun r σ' => r = .slc sz xs .no ∧ σ' = σ) :=
  ⟨fun G w vs hI hr => (h.go G w vs hI hr).mono fun e w' ⟨v, r, σ', G', h1, ⟨tk, h2, h3⟩, h4, h5, h6⟩ => ⟨v, .slc sz xs .no, σ, G', h1, ⟨rfl, rfl⟩, h4.drop h3.le, h5, (Weak.tok sz xs tk).go _ _ _ (h2 ▸ h6)⟩⟩
end
end Go.Al
end
section
set_option linter.unusedVariables false
set_option linter.unusedSimpArgs false
namespace Go.Al
open Go.RowKit
def byteOf (n : Int) : UInt8 := UInt8.ofNat (n % 256).toNat
theorem wrap_u8 (n : Int) : IntKind.u8.wrap n = ((byteOf n).toNat : Int) := by
  simp only [IntKind.wrap, IntKind.signed, IntKind.bits, byteOf]
  simp
  omega
class SlI (P : Program) (t : TypeId) (sz : outParam Nat) : Prop where h : ∃ e i z, P.underlying t = some (.slice e) ∧ P.info? e = some i ∧ i.zero = some z ∧ z.cells.size = i.size ∧ i.size = sz ∧ 0 < sz
theorem SlI.of {P : Program} {t e sz : Nat} {z : Value} (ht : P.underlying t = some (.slice e)) (hs : (P.info? e).map (·.size) = some sz) (hz : (P.info? e).bind (·.zero) = some z) (hc : z.cells.size = sz) (h0 : 0 < sz) : SlI P t sz := ⟨by
  obtain ⟨i, hi, rfl⟩ := Option.map_eq_some_iff.1 hs
  rw [hi] at hz
  exact ⟨e, i, z, ht, hi, hz, hc, rfl, h0⟩⟩
theorem length_aBytes (l : List UInt8) : (aBytes l).length = l.length := by simp [aBytes]
theorem Weak.of_eq {x y : AV} (h : x = y) : Weak x y := h ▸ .refl x
section
variable {P : Program} {E : AEnv}
theorem a_min {x y : Operand} {ts : Array TypeId} {a b : Int} (hx : aeval E x = .int .i64 a) (hy : aeval E y = .int .i64 b) : Yields P E (.call ⟨.builtin .min, #[x, y], ts⟩) (.int .i64 (min a b)) := by
  refine ⟨?_⟩
  have : (if b < a then b else a) = min a b := by omega
  rcases ts with ⟨ts⟩
  simp [aop, aBuiltin, aMM, hx, hy, this]
theorem a_max {x y : Operand} {ts : Array TypeId} {a b : Int} (hx : aeval E x = .int .i64 a) (hy : aeval E y = .int .i64 b) : Yields P E (.call ⟨.builtin .max, #[x, y], ts⟩) (.int .i64 (max a b)) := by
  refine ⟨?_⟩
  have : (if b > a then b else a) = max a b := by omega
  simp only [GT.gt] at this
  simp [aop, aBuiltin, aMM, hx, hy, this]
theorem byteOf_toNat (n : Nat) (h : n < 256) : (byteOf n).toNat = n := by
  simp only [byteOf]
  have : ((n : Int) % 256).toNat = n := by omega
  rw [this]; simp; omega
theorem byteOf_eq {b : Int} (h : 0 ≤ b ∧ b < 256) : ((byteOf b).toNat : Int) = b := by
  have := byteOf_toNat b.toNat (by omega)
  rw [Int.toNat_of_nonneg h.1] at this
  omega
theorem a_u8add {x y : Operand} {t yt : TypeId} {a b : Int} (hx : aeval E x = .int .u8 a) (hy : aeval E y = .int .u8 b) : Yields P E (.binOp .add t x y yt) (.int .u8 ((byteOf (a + b)).toNat : Nat)) := by
  refine a_binI hx hy ?_
  simp only [aIntOp, if_true, wrap_u8]
theorem a_u8sub {x y : Operand} {t yt : TypeId} {a b : Int} (hx : aeval E x = .int .u8 a) (hy : aeval E y = .int .u8 b) : Yields P E (.binOp .sub t x y yt) (.int .u8 ((byteOf (a - b)).toNat : Nat)) := by
  refine a_binI hx hy ?_
  simp only [aIntOp, if_true, wrap_u8]
theorem toB_nil : toBytes [] = some [] := rfl
theorem toB_cons {b : UInt8} {xs : List AV} {l : List UInt8} (h : toBytes xs = some l) : toBytes (.int .u8 (b.toNat : Nat) :: xs) = some (b :: l) := by
  show ((toByte (aByte b)).bind fun b => (toBytes xs).map (b :: ·)) = _
  rw [toByte_aByte, h]; rfl
theorem toB_consC {n : Int} {xs : List AV} {l : List UInt8} (h : toBytes xs = some l) (hn : 0 ≤ n ∧ n < 256) : toBytes (.int .u8 n :: xs) = some (byteOf n :: l) := by
  have := toB_cons (b := byteOf n) h
  rwa [byteOf_eq hn] at this
theorem a_bytesStrX {x : Operand} {s d e : TypeId} {l : List UInt8} {xs : List AV} {tk : Tok} [hs : TyU P s (.slice e)] [hd : TyU P d .string] [he : TyU P e (.int .u8)] (hx : aeval E x = .slc 1 xs tk) (h : toBytes xs = some l) : Yields P E (.convert s d x) (.str l) := by
  refine ⟨?_⟩
  simp [aop, aConv, aBytesStr, hx, hs.h, hd.h, he.h, h]
theorem a_quo64 {x y : Operand} {t yt : TypeId} {a b : Int} (hx : aeval E x = .int .i64 a) (hy : aeval E y = .int .i64 b) (h : 0 ≤ a ∧ a ≤ 9223372036854775807 ∧ 1 ≤ b) : Yields P E (.binOp .quo t x y yt) (.int .i64 (a / b)) := by
  refine a_binI hx hy ?_
  have : b ≠ 0 := by omega
  simp [aIntOp, this, IntWalk.i64_quo a b h]
theorem a_rem {x y : Operand} {t yt : TypeId} {k : IntKind} {a b : Int} (hx : aeval E x = .int k a) (hy : aeval E y = .int k b) (h : 0 ≤ a ∧ b ≠ 0) : Yields P E (.binOp .rem t x y yt) (.int k (a % b)) := by
  refine a_binI hx hy ?_
  simp [aIntOp, h.2, IntWalk.rem_in a b h.1]
end
end Go.Al
end
section
set_option linter.unusedVariables false
set_option linter.unusedSimpArgs false
namespace Go.Al
open Go.RowKit
section
variable {P : Program} {w0 : Base} {σ : St}
end
end Go.Al
end
section
set_option linter.unusedVariables false
set_option linter.unusedSimpArgs false
namespace Go.Al
open Go.RowKit
theorem fill_congr {p q : Nat → Option (Nat × Nat)} : ∀ (l : List (Nat × AV)) (cells : List AV), (∀ x ∈ l, p x.1 = q x.1) → aFill p cells l = aFill q cells l
  | [], cells, h => rfl
  | (i, v) :: rest, cells, h => by
    rw [aFill, aFill, h (i, v) (by simp)]
    cases q i with
    | none => rfl
    | some os =>
      obtain ⟨off, size⟩ := os
      simp only
      split
      · exact fill_congr rest _ fun x hx => h x (by simp [hx])
      · rfl
theorem fill_none {p : Nat → Option (Nat × Nat)} : ∀ (l : List (Nat × AV)) (cells cs : List AV), aFill p cells l = some cs → ∀ x ∈ l, (p x.1).isSome = true
  | [], cells, cs, h, x, hx => by simp at hx
  | (i, v) :: rest, cells, cs, h, x, hx => by
    rw [aFill] at h
    cases hp : p i with
    | none => rw [hp] at h; cases h
    | some os =>
      rw [hp] at h
      obtain ⟨off, size⟩ := os
      simp only at h
      split at h
      · rcases List.mem_cons.1 hx with rfl | hx
        · simp [hp]
        · exact fill_none rest _ cs h x hx
      · cases h
class BldI (P : Program) (t : TypeId) (z : outParam (List AV)) (pl : outParam (List (Nat × Nat))) : Prop where
  h : ∀ parts cs, aFill (fun i => pl[i]?) z parts = some cs → aBuild P t parts = some (.agg cs)
theorem BldI.struct {P : Program} {t : TypeId} {fs : Array Field} {za : Array Value} {z : List AV} {pl : List (Nat × Nat)} (hu : P.underlying t = some (.struct fs)) (hz : (P.info? t).bind (·.zero) = some (.agg za)) (h1 : za.toList.all (fun c => (aCell c).one) = true)
    (h2 : fs.toList.all (fun f => (P.info? f.type).isSome) = true) (h3 : za.toList.map aCell = z) (h4 : fs.toList.map (fun f => (f.offset, ((P.info? f.type).map (·.size)).getD 0)) = pl) : BldI P t z pl := ⟨fun parts cs h => by
  subst h3; subst h4
  simp only [aBuild, hu, hz, h1, h2, and_self, if_true]
  have e : (fun i : Nat => (fs[i]?).map fun f : Field => (f.offset, ((P.info? f.type).map (·.size)).getD 0)) = fun i : Nat => (fs.toList.map (fun f : Field => (f.offset, ((P.info? f.type).map (·.size)).getD 0)))[i]? := by
    funext i; simp
  rw [e, h]; rfl⟩
theorem BldI.array {P : Program} {t n e sz : Nat} {za : Array Value} {z : List AV} (hu : P.underlying t = some (.array n e)) (hz : (P.info? t).bind (·.zero) = some (.agg za)) (h1 : za.toList.all (fun c => (aCell c).one) = true)
    (h2 : (P.info? e).map (·.size) = some sz) (h3 : za.toList.map aCell = z) : BldI P t z ((List.range n).map fun j => (j * sz, sz)) := ⟨fun parts cs h => by
  subst h3
  obtain ⟨i, hi, rfl⟩ := Option.map_eq_some_iff.1 h2
  simp only [aBuild, hu, hz, h1, hi, if_true]
  have hs := fill_none _ _ _ h
  rw [fill_congr parts _ (q := fun j => ((List.range n).map fun j => (j * i.size, i.size))[j]?) fun x hx => ?_, h]; rfl
  have := hs x hx
  simp only [List.getElem?_map] at this ⊢
  by_cases hn : x.1 < n
  · simp [hn]
  · simp [List.getElem?_eq_none (show (List.range n).length ≤ x.1 by simpa using hn)] at this⟩
inductive EvP (E : AEnv) : List (Nat × Operand) → List (Nat × AV) → Prop
  | nil : EvP E [] []
  | cons {i : Nat} {x : Operand} {v : AV} {l : List (Nat × Operand)} {r : List (Nat × AV)} (h : aeval E x = v) (t : EvP E l r) : EvP E ((i, x) :: l) ((i, v) :: r)
theorem EvP.eq {E : AEnv} : ∀ {l : List (Nat × Operand)} {r : List (Nat × AV)}, EvP E l r → l.map (fun p => (p.1, aeval E p.2)) = r
  | _, _, .nil => rfl
  | _, _, .cons h t => by rw [List.map_cons, t.eq, h]
theorem a_build {P : Program} {E : AEnv} {t : TypeId} {z cs : List AV} {pl : List (Nat × Nat)} {parts : Array (Nat × Operand)} {ps : List (Nat × AV)} [hb : BldI P t z pl] (hp : EvP E parts.toList ps) (h : aFill (fun i => pl[i]?) z ps = some cs) : Yields P E (.build t parts) (.agg cs) :=
  ⟨by rw [aop, hp.eq]; exact hb.h _ _ h⟩
end Go.Al
end
section
set_option linter.unusedVariables false
set_option linter.unusedSimpArgs false
namespace Go.Al
open Go.RowKit
theorem Ext.below {G : Gh} {w w' : World} (hb : Below w.heap.size w w') : Ext G w G w' := ⟨rfl, fun _ _ h => h, fun _ _ h => h, fun _ _ h => h, fun b o v hs hc => by
  have := hb.cell (p := ⟨b, o, none⟩) (lt_of_cell hc)
  rw [this]; exact hc, .of hb.size fun k o hk _ => (hb.block k (lt_of_get hk)).trans hk⟩
theorem Inv.below {w0 : Base} {G : Gh} {σ : St} {w w' : World} (hI : Inv w0 G σ w) (hb : Below w.heap.size w w') : Inv w0 G σ w' := by
  have e := Ext.below (G := G) hb
  have hg : ∀ (m : Nat) (o : Obj), w.heap[m]? = some o → w'.heap[m]? = some o := fun m o h => by rw [hb.block m (lt_of_get h)]; exact h
  refine ⟨hI.base, hI.old.trans (hb.mono hI.size), ?_, hI.binj, ?_, hI.tinj, hI.apart, ?_, ?_, ?_, hI.fresh, fun l o hr => (hI.obj l o hr).ext (.below hb) (fun k o hk _ => (hb.block k (lt_of_get hk)).trans hk)⟩
  · intro i cs hc
    obtain ⟨m, c, T, h1, h2, h3, h4, h5⟩ := (hI.box i cs hc).ex
    exact ⟨m, c, T, h1, h2, hg _ _ h3, h4.ext e, h5⟩
  · intro t ht
    obtain ⟨m, e', lim, c, T, fr, h1, h2, h3, h4, h5, h6⟩ := (hI.tok t ht).ex
    exact ⟨m, e', lim, c, T, fr, h1, h2, hg _ _ h3, h4, h5, h6⟩
  · intro b o h; exact Nat.lt_of_lt_of_le (hI.immlt b o h) hb.size
  · intro i m h; exact Nat.lt_of_lt_of_le (hI.boxlt i m h) hb.size
  · intro i m a l h; exact Nat.lt_of_lt_of_le (hI.toklt i m a l h) hb.size
theorem CallP.told {P : Program} {w0 : Base} {f : FuncId} {args : List AV} {r : AV} (h : ∀ G w vs, Below w0.w.heap.size w0.w w → RelL G w args vs → ∃ v, (∀ w', Rel G w' r v) ∧ Calls P f vs.toArray w (fun e w' => e = .returned v ∧ Below w.heap.size w w')) : CallP P w0 f args r := fun σ => ⟨fun G w vs hI hr => by
  obtain ⟨v, hv, hc⟩ := h G w vs (hI.base ▸ hI.old) hr
  refine hc.mono ?_
  rintro e w' ⟨rfl, hb⟩
  exact ⟨v, r, σ, G, rfl, ⟨rfl, rfl⟩, hI.below hb, .below hb, hv w'⟩⟩
theorem Inv.weakBox {w0 : Base} {G : Gh} {σ : St} {w : World} {b : Nat} {cs ds : List AV} (hI : Inv w0 G σ w) (hb : σ.box b = some cs) (hw : WeakL ds cs) : Inv w0 G (σ.setBox b ds) w := by
  have hs : ∀ i, ((σ.setBox b ds).box i).isSome = true → (σ.box i).isSome = true := fun i hi => by
    by_cases e : i = b
    · subst e; rw [hb]; rfl
    · simpa [St.setBox, e] using hi
  refine ⟨hI.base, hI.old, ?_, fun i j m hi hj => hI.binj i j m (hs i hi) (hs j hj), hI.tok, hI.tinj, fun i t m e l hi ht => hI.apart i t m e l (hs i hi) ht, hI.immlt, hI.boxlt, hI.toklt, hI.fresh, hI.obj⟩
  intro i es hi
  by_cases e : i = b
  · subst e
    simp only [St.setBox, if_true, Option.some.injEq] at hi
    subst hi
    obtain ⟨m, c, T, h1, h2, h3, h4, h5⟩ := (hI.box i cs hb).ex
    exact ⟨m, c, T, h1, h2, h3, hw.rel h4, h5⟩
  · exact hI.box i es (by simpa [St.setBox, e] using hi)
theorem CallW.weakBox {P : Program} {w0 : Base} {f : FuncId} {args : List AV} {σ : St} {K : AV → St → Prop} {b : Nat} {cs ds : List AV} (hb : σ.box b = some cs) (hw : WeakL ds cs) (h : CallW P w0 f args (σ.setBox b ds) K) : CallW P w0 f args σ K :=
  ⟨fun G w vs hI hr => h.go G w vs (hI.weakBox hb hw) hr⟩
theorem W.weakBox {P : Program} {w0 : Base} {n : Nat} {c : Code} {Q : Exit → AEnv → St → Prop} {E : AEnv} {σ : St} {b : Nat} {cs ds : List AV} (hb : σ.box b = some cs) (hw : WeakL ds cs) (h : W P w0 n c Q E (σ.setBox b ds)) : W P w0 n c Q E σ :=
  ⟨fun G w a hI hE hn hd => h.go G w a (hI.weakBox hb hw) hE hn hd⟩
theorem Moves.set {σ σ' : St} {tk tk' : Tok} (h : Moves σ tk σ' tk') (b : Nat) (cs : List AV) : Moves (σ.setBox b cs) tk (σ'.setBox b cs) tk' := ⟨fun i ds e => by
  by_cases hi : i = b
  · subst hi; simpa [St.setBox] using e
  · simp [St.setBox, hi] at e ⊢; exact h.box i ds e, h.keep, h.room, h.obj⟩
theorem Moves.new {σ σ' : St} {tk tk' : Tok} {b : Nat} {cs : List AV} (h : Moves σ tk σ' tk') (hb : σ.box b = none) : Moves σ tk (σ'.setBox b cs) tk' := ⟨fun i ds e => by
  have hi : i ≠ b := by rintro rfl; rw [hb] at e; cases e
  simp [St.setBox, hi]; exact h.box i ds e, h.keep, h.room, h.obj⟩
theorem Moves.less {σ σ0 σ' : St} {tk tk' : Tok} (h : Moves σ tk σ' tk') (hl : ∀ i cs, σ0.box i = some cs → σ.box i = some cs) (ht : σ0.tok = σ.tok) (ho : σ0.obj = σ.obj := by rfl) : Moves σ0 tk σ' tk' := ⟨fun i cs e => h.box i cs (hl i cs e), fun p hp hn => h.keep p (ht ▸ hp) hn, h.room, h.obj.trans ho.symm⟩
theorem Moves.in {σ σ' : St} {tk tk' : Tok} {b : Nat} {cs : List AV} (h : Moves (σ.setBox b cs) tk σ' tk') (hb : σ.box b = none) : Moves σ tk σ' tk' := h.less (fun i ds e => by
  have hi : i ≠ b := by rintro rfl; rw [hb] at e; cases e
  simp [St.setBox, hi, e]) rfl
section
variable {P : Program} {w0 : Base} {ds : List (Option Tmp)} {kind : Kd} {Q : AEnv → St → Prop} {σ : St} {o : Oper} {l : List Oper} {i : Nat} {L : List (Nat × AV)}
theorem RunsL.pre {P : Program} {w0 : Base} {ds : List (Option Tmp)} {kind : Kd} {Q : AEnv → St → Prop} {i : Nat} {l : List Oper} {E : AEnv} {σ σ' : St} (h : σ = σ') (k : RunsL P w0 ds kind Q i l E σ') : RunsL P w0 ds kind Q i l E σ := h ▸ k
end
theorem a_buildN {P : Program} {E : AEnv} {t n sz : Nat} {parts : Array (Nat × Operand)} {ps : List (Nat × AV)} {xs : List AV} [hi : SlI P t sz] (hp : EvP E parts.toList ps) (hx : aParts ps 0 = some xs) (hn : ps.length = n) (hf : xs.all (fun x => x.flat && (x.cells.length == sz)) = true) (h4 : n * sz ≤ 4096) : Yields P E (.buildSlice t n parts) (.slc sz xs .full) := by
  refine ⟨?_⟩
  obtain ⟨e, i, z, h1, h2, h3, h5, rfl, h6⟩ := hi.h
  subst hn
  simp only [aop, hp.eq, aBuildSlice, h1, h2, h3, h5, h6, h4, and_self, if_true, hx, Option.bind_some, hf]
end Go.Al
end
section
set_option linter.unusedVariables false
set_option linter.unusedSimpArgs false
namespace Go.Al
open Go.RowKit
section
variable {P : Program} {w0 : Base} {E : AEnv} {σ : St} {o : Oper}
theorem ok_boxF (t : TypeId) (x : Operand) (ho : o.op = .box t x) (hx : (aeval E x).flat = true) : OpOk P o E (.vp (aeval E x)) := ⟨fun w0 G σ w a hI hE => by
  obtain ⟨hr, hone⟩ := rel_cells_one (hE.get x (by simp [ho, Op.operands, Call.operands])) hx
  have hgr := grows_rest G w (.cells (a.eval x).cells t) (a.eval x).cells.toList.length
  refine ⟨.pointer (some ⟨w.heap.size, 0, none⟩), _, _, ?_, hgr.inv hI, hgr.ext, .vp hone (hr.ext hgr.ext) ?_⟩
  · have he : execOp a.eval o = (Instr.box t (a.eval x) >>= fun v => pure (.value v)) := by simp only [execOp, ho]
    rw [he]
    simp [Instr.box, newVar, newRow]
  · intro k v hk
    refine ⟨w.heap.size, 0, rfl, .inr (.inr ⟨rfl, ?_⟩), ?_⟩
    · obtain ⟨h, _⟩ := List.getElem?_eq_some_iff.1 hk
      omega
    · rw [cell_block (c := (a.eval x).cells) (T := t) (fr := (0, 0)) (by simp)]
      simpa using hk⟩
theorem Inv.freeze {G : Gh} {w : World} {b m : Nat} {cs : List AV} {σ' : St} (hI : Inv w0 G σ w) (hb : σ.box b = some cs) (hl : St.Le σ' σ) (hn : σ'.box b = none) (hm : G.box b = some m) :
    Inv w0 { G with imm := fun b' o => G.imm b' o ∨ b' = m } σ' w ∧ Ext G w { G with imm := fun b' o => G.imm b' o ∨ b' = m } w := by
  have e : Ext G w { G with imm := fun b' o => G.imm b' o ∨ b' = m } w := ⟨rfl, fun _ _ h => h, fun _ _ h => h, fun _ _ h => .inl h, fun b o v _ hc => hc, .refl w⟩
  have hI' := hI.drop hl
  have hbs : (σ.box b).isSome = true := by rw [hb]; rfl
  refine ⟨⟨hI'.base, hI'.old, fun i ds hi => ?_, hI'.binj, fun t ht => ?_, hI'.tinj, hI'.apart, fun b' o h => ?_, hI'.boxlt, hI'.toklt, hI'.fresh, fun l o hr => (hI'.obj l o hr).ext e (fun _ _ hk _ => hk)⟩, e⟩
  · obtain ⟨m', c, T, h1, h2, h3, h4, h5⟩ := (hI'.box i ds hi).ex
    refine ⟨m', c, T, h1, h2, h3, h4.ext e, ⟨fun o ho => ?_, h5.tag⟩⟩
    rcases ho with ho | rfl
    · exact h5 o ho
    · have his : (σ.box i).isSome = true := by rw [hl.box i ds hi]; rfl
      have := hI.binj i b m' his hbs h1 hm
      subst this
      rw [hn] at hi; cases hi
  · obtain ⟨m', a, lim, c, T, fr, h1, h2, h3, h4, h5, h6⟩ := (hI'.tok t ht).ex
    refine ⟨m', a, lim, c, T, fr, h1, h2, h3, h4, h5, fun o ho hi => ?_⟩
    rcases hi with hi | rfl
    · exact h6 o ho hi
    · exact hI.apart b t m' a lim hbs (hl.tok t ht) hm h1
  · rcases h with h | rfl
    · exact hI'.immlt b' o h
    · exact hI.boxlt b b' hm
theorem W.freeze {n : Nat} {c : Code} {Q : Exit → AEnv → St → Prop} {L : List (Nat × AV)} {b : Nat} {cs : List AV} {σ' : St} (k : Nat) (x : AV) (hb : σ.box b = some cs) (hk : env L k = .ptr b 0) (hx : x.cells = cs) (h1 : ∀ c ∈ x.cells, c.one = true) (hl : St.Le σ' σ) (hn : σ'.box b = none)
    (h : W P w0 n c Q (env ((k, .vp x) :: L)) σ') : W P w0 n c Q (env L) σ := ⟨fun G w a hI hE hsz ro hd => by
  have hp := hE.get k
  rw [hk] at hp
  generalize hv : a.tmps.getD k undef = v at hp
  cases hp with
  | ptr hgb =>
    rename_i m
    obtain ⟨hI', e⟩ := hI.freeze hb hl hn hgb
    obtain ⟨m', c', T, h1', h2, h3, h4, h5⟩ := (hI.box b cs hb).ex
    obtain rfl : m' = m := by rw [h1'] at hgb; exact Option.some.inj hgb
    have hE' : RelE { G with imm := fun b' o => G.imm b' o ∨ b' = m' } w (env ((k, .vp x) :: L)) a := ⟨fun t => by
      by_cases ht : t = k
      · subst ht
        rw [env_at, if_pos rfl, hv]
        refine .vp h1 (vs := c'.toList) (by rw [hx]; exact h4.ext e) fun j u hj => ⟨m', 0, rfl, .inr (.inr rfl), ?_⟩
        rw [cell_block h3, Nat.zero_add]; simpa using hj
      · rw [env_at, if_neg ht]
        exact (hE.get t).ext e⟩
    obtain go := h.go _ w a hI' hE' hsz ro hd
    refine wpIn_mono go ?_
    rintro ex a' w' ⟨E', s', G', q, r1, r2, r3, r4, r5⟩
    exact ⟨E', s', G', q, r1, r2, r3, r4, e.trans r5⟩⟩
end
section
variable {P : Program} {w0 : Base} {ds : List (Option Tmp)} {kind : Kd} {Q : AEnv → St → Prop} {σ : St} {o : Oper} {l : List Oper} {i : Nat} {L : List (Nat × AV)}
end
theorem a_neg64 {P : Program} {E : AEnv} {x : Operand} {t : TypeId} {a : Int} (hx : aeval E x = .int .i64 a) (h : -9223372036854775807 ≤ a ∧ a ≤ 9223372036854775807) : Yields P E (.unOp .neg t x) (.int .i64 (-a)) := by
  refine ⟨?_⟩
  have : IntKind.i64.wrap (-a) = -a := IntWalk.i64_in _ (by omega)
  have e0 : (0 - a) = -a := by omega
  simp [aop, hx, AV.val, aUnV, Op.unary, Op.intArith, semVal, Pure.pure, aConst, aCell, this, e0]
def kindOf (rd : Nat) (ls : List Nat) (l : List Oper) (i : Nat) : Nat :=
  match l[i]? with
  | none => 0
  | some o => match o.op with
    | .load .. => rd
    | .alloc _ | .box .. | .store .. => 2
    | .call ⟨.builtin .append, _, _⟩ => 2
    | .call ⟨.value (.func f), _, _⟩ => if ls.contains f then 2 else 0
    | _ => 0
end Go.Al
end
section
set_option linter.unusedVariables false
set_option linter.unusedSimpArgs false
namespace Go.Al
open Go.RowKit
section
variable {P : Program} {w0 : Base} {ds : List (Option Tmp)} {kind : Kd} {Q : AEnv → St → Prop} {σ : St} {o : Oper} {l : List Oper} {i : Nat} {L : List (Nat × AV)}
end
theorem a_makeFunc {P : Program} {E : AEnv} {f : Fn} {first cap : Array Operand} {fs cs : List AV} (h1 : evals E first.toList = fs) (h2 : evals E cap.toList = cs) : Yields P E (.makeFunc f first cap) (.fn f fs cs) := by
  refine ⟨?_⟩
  rw [evals_eq] at h1 h2
  simp only [aop, h1, h2]
theorem Moves.chain {s s1 s2 : St} {b : Nat} {X Y : List AV} {tk0 tk1 tk2 : Tok} (h1 : Moves (s.setBox b X) tk0 s1 tk1) (h2 : Moves (s1.setBox b Y) tk1 s2 tk2) : Moves (s.setBox b Y) tk0 s2 tk2 := by
  have := (h1.set b Y).trans h2
  rwa [setBox_setBox] at this
theorem Moves.round {σ0 s s' s'' : St} {bo bw : Nat} {X Y W : List AV} {tko tko' tkw : Tok} (h : Moves (σ0.setBox bo X) .full s tko) (hb : s.box bw = none) (hw : Moves (s.setBox bw W) .full s' tkw) (hl : Moves (s'.setBox bo Y) tko s'' tko') : Moves (σ0.setBox bo Y) .full s'' tko' := by
  have h1 : Moves s .full s' tkw := hw.in hb
  exact (h.more h1).chain hl
end Go.Al
end
section
set_option linter.unusedVariables false
set_option linter.unusedSimpArgs false
namespace Go.Al
section
variable {P : Program} {E : AEnv} {r : AV}
end
section
variable {P : Program} {w0 : Base} {ds : List (Option Tmp)} {kind : Kd} {Q : AEnv → St → Prop} {σ : St} {o : Oper} {l : List Oper} {i : Nat} {L : List (Nat × AV)}
end
structure Stk (p : Prop) : Prop where h : p
theorem runsL_perm {P : Program} {w0 : Base} {os : List Oper} {kind : Kd} {Q : AEnv → St → Prop} : ∀ (l : List Nat) (kd : Kd) (n : Nat) (E : AEnv) (σ : St), (∀ j, kd (n + j) = kind (l.getD j 0)) → kd.held = kind.held → (∀ i ∈ l, i < os.length) → RunsL P w0 (os.map (·.dst)) kd Q n (l.filterMap fun i => os[i]?) E σ → Runs P w0 os.toArray kind Q l E σ
  | [], kd, n, E, σ, _, _, _, h => h
  | i :: l, kd, n, E, σ, hk, hH, hlt, h => by
    have hi := hlt i (by simp)
    have ho : os.toArray[i]? = some os[i] := by simp [hi]
    have ho' : os[i]? = some os[i] := by simp [hi]
    have hs : ∀ E σ, RunsL P w0 (os.map (·.dst)) kd Q (n + 1) (l.filterMap fun i => os[i]?) E σ → Runs P w0 os.toArray kind Q l E σ := fun E σ h => runsL_perm l kd (n + 1) E σ (fun j => by
      have := hk (j + 1)
      rw [show n + 1 + j = n + (j + 1) by omega, this]; simp) hH (fun k hk => hlt k (by simp [hk])) h
    have hkn : kd n = kind i := by simpa using hk 0
    rw [List.filterMap_cons, ho'] at h
    unfold RunsL at h
    rw [want_eq, hkn, hH] at h
    unfold Runs
    rw [ho]
    simp only
    split at h
    · rename_i hw
      try simp only [hw]
      exact h.mono fun r s h => hs _ _ h
    · rename_i hw
      try simp only [hw]
      exact hs _ _ h
    · exact h.elim
theorem order_lt {ops : Array Oper} {kind : Nat → Nat} {l : List Nat} (h : orderOk ops kind l = true) : ∀ i ∈ l, i < ops.size := by
  simp only [orderOk, Bool.and_eq_true, List.all_eq_true, decide_eq_true_eq] at h
  exact fun i hi => h.1.1.1.2 i hi
end Go.Al
end
section
set_option linter.unusedVariables false
set_option linter.unusedSimpArgs false
namespace Go.Al
open Go.RowKit
class TyI (P : Program) (t : TypeId) : Prop where h : ∃ m, P.underlying t = some (.interface m)
theorem a_nilI {P : Program} {E : AEnv} {x y : Operand} {t yt : TypeId} {op : BinOp} {v r : AV} {b : Bool} [hu : TyI P t] (hx : aeval E x = v) (hy : aeval E y = .nilifc) (hv : v = .nilifc ∨ ∃ s z, v = .ifc s z) (hc : isConstB y = true) (hn : aNil v = some b) (h : aEqOp op b = some r) : Yields P E (.binOp op t x y yt) r := by
  refine ⟨?_⟩
  obtain ⟨m, hu⟩ := hu.h
  rcases hv with rfl | ⟨s, z, rfl⟩ <;> simp [aop, aBin, hx, hy, hu, nilD, nilFit, hc, hn, h]
class TyNI (P : Program) (t : TypeId) : Prop where h : ∃ d, P.underlying t = some d ∧ ifaceD d = false
theorem a_mkIface {P : Program} {E : AEnv} {x : Operand} {t : TypeId} {v : AV} [hu : TyNI P t] (hx : aeval E x = v) : Yields P E (.makeInterface t x) (.ifc t v) := by
  refine ⟨?_⟩
  obtain ⟨d, h1, h2⟩ := hu.h
  simp [aop, aMakeIface, hx, h1, h2]
theorem setBox_id {σ : St} {b : Nat} {cs : List AV} (h : σ.box b = some cs) : σ.setBox b cs = σ := by
  cases σ with
  | mk bx tk ob =>
    simp only [St.setBox, St.mk.injEq, and_true]
    funext j
    by_cases e : j = b
    · subst e; simpa using h.symm
    · simp [e]
end Go.Al
end
section
set_option linter.unusedVariables false
namespace Go.Al
theorem Moves.setN {σ s : St} {b : Nat} {cs : List AV} {tk : Tok} (h : Moves σ .full s tk) (hb : σ.box b = none) : Moves σ .full (s.setBox b cs) tk := h.new hb
end Go.Al
end
section
set_option linter.unusedVariables false
set_option linter.unusedSimpArgs false
namespace Go.Al
open Go.RowKit
def G0 (W : World) : Gh := ⟨W.heap.size, fun _ => none, fun _ => none, fun _ _ => False⟩
theorem inv0 (W : World) : Inv W (G0 W) St.empty W :=
  ⟨rfl, .refl _ _, fun i cs h => (by cases h), fun i j m hi => (by cases hi), fun t h => (by cases h), fun s t m e l e' l' h => (by cases h), fun i t m e l h => (by cases h), fun b o h => h.elim, fun i m h => (by cases h), fun i m e l h => (by cases h), ⟨0, fun i _ => ⟨rfl, rfl⟩⟩, fun l o h => by cases h⟩
theorem law_calls {P : Program} {W : World} {f : FuncId} {args : List AV} {vs : List Value} (h : CallW P W f args St.empty (fun r _ => r = .bool true)) (hr : RelL (G0 W) W args vs) : Calls P f vs.toArray W (fun e w' => e = .returned (.bool true) ∧ Below W.heap.size W w') := by
  refine (h.go (G0 W) W vs (inv0 W) hr).mono ?_
  rintro e w' ⟨v, r, σ', G', rfl, rfl, hI, hx, hrel⟩
  cases hrel
  refine ⟨rfl, ?_⟩
  have := hI.old
  rwa [hI.base] at this
theorem bytes_rel {W : World} {a : Option Addr} {len cap : Nat} {zs : List Int} (h : (a = none ∧ len = 0 ∧ cap = 0 ∧ zs = []) ∨ ∃ x, a = some x ∧ x.block < W.heap.size ∧ len ≤ cap ∧ cap ≤ maxLen ∧ len ≤ zs.length ∧ (∀ i, i < zs.length → W.cell? (x.add i) = some (.int .u8 (zs.getD i 0))) ∧ ∀ n ∈ zs, 0 ≤ n ∧ n < 256) :
    ∃ c : List UInt8, c.length = len ∧ Rel (G0 W) W (.slc 1 (aBytes c) .no) (.slice a len cap) := by
  rcases h with ⟨rfl, rfl, rfl, rfl⟩ | ⟨x, rfl, hx, hl, hm, hz, hc, hn⟩
  · exact ⟨[], rfl, (Weak.nils 1 .no (.inl rfl)).go _ _ _ .nils⟩
  · refine ⟨(zs.take len).map fun z => UInt8.ofNat z.toNat, by simp; omega, ?_⟩
    have hval : ∀ i (z : Int), zs[i]? = some z → ((UInt8.ofNat z.toNat).toNat : Int) = z := fun i z hz => by
      have := hn z (List.mem_of_getElem? hz)
      simp
      omega
    refine .slc (vs := (zs.take len).map fun z => Value.int .u8 z) (by simp [aBytes]; omega) hl hm ?_ ?_ ?_ trivial
    · intro y hy
      simp only [aBytes, List.mem_map] at hy
      obtain ⟨b, _, rfl⟩ := hy
      exact ⟨rfl, fun c hc => by simp [AV.cells, aByte] at hc; subst hc; rfl⟩
    · have : ∀ l : List Int, (∀ z ∈ l, 0 ≤ z ∧ z < 256) → RelL (G0 W) W ((aBytes (l.map fun z => UInt8.ofNat z.toNat)).flatMap AV.cells) (l.map fun z => Value.int .u8 z) := by
        intro l
        induction l with
        | nil => intro _; exact .nil
        | cons z l ih =>
          intro h
          have e : ((UInt8.ofNat z.toNat).toNat : Int) = z := by
            have := h z (by simp)
            simp; omega
          have hr : Rel (G0 W) W (.int .u8 ((UInt8.ofNat z.toNat).toNat : Int)) (.int .u8 z) := by rw [e]; exact .int _ _
          exact .cons hr (ih fun y hy => h y (by simp [hy]))
      exact this _ fun z hz => hn z (List.mem_of_mem_take hz)
    · intro k v hk
      have hlt : k < len := by
        obtain ⟨h, _⟩ := List.getElem?_eq_some_iff.1 hk
        simp at h; omega
      have hspot : x.spot = none := by
        have h0 := hc 0 (by omega)
        simp only [Addr.add, if_true, World.cell?] at h0
        cases hs : x.spot with
        | none => rfl
        | some s => rw [hs] at h0; split at h0 <;> simp at h0
      obtain ⟨b, o, sp⟩ := x
      simp only at hspot hx
      subst hspot
      refine ⟨b, o, rfl, .inl hx, ?_⟩
      have h1 := hc k (by omega)
      have hz1 : zs[k]? = some (zs.getD k 0) := by simp [List.getD]; rw [List.getElem?_eq_getElem (by omega)]; rfl
      have hv : v = .int .u8 (zs.getD k 0) := by
        rw [List.getElem?_map, List.getElem?_take, if_pos hlt, hz1] at hk
        exact (Option.some.inj hk).symm
      rw [hv, ← h1]
      unfold Addr.add
      by_cases hk0 : k = 0
      · subst hk0; simp
      · simp [hk0]
theorem str_rel {W : World} (s : ByteArray) : Rel (G0 W) W (.str s.data.toList) (.string s) := by
  have := Rel.str (G := G0 W) (w := W) s.data.toList
  simpa using this
end Go.Al
end
section
set_option linter.unusedVariables false
set_option linter.unusedSimpArgs false
namespace Go.Al
open Go.RowKit
theorem CallP.tells {P : Program} {w0 : Base} {f : FuncId} {args : List AV} {r : AV} (h : ∀ G w vs, Below w0.w.heap.size w0.w w → RelL G w args vs → Calls P f vs.toArray w (fun e w' => ∃ v, e = .returned v ∧ Rel G w' r v ∧ Below w.heap.size w w')) : CallP P w0 f args r := fun σ => ⟨fun G w vs hI hr => by
  refine (h G w vs (hI.base ▸ hI.old) hr).mono ?_
  rintro e w' ⟨v, rfl, hv, hb⟩
  exact ⟨v, r, σ, G, rfl, ⟨rfl, rfl⟩, hI.below hb, .below hb, hv⟩⟩
theorem cell_below {w w' : World} {m b o : Nat} {v : Value} (hb : Below m w w') (hm : w.heap.size ≤ m) (h : w.cell? ⟨b, o, none⟩ = some v) : w'.cell? ⟨b, o, none⟩ = some v := by
  have := hb.cell (p := ⟨b, o, none⟩) (Nat.lt_of_lt_of_le (lt_of_cell h) hm)
  rw [this]; exact h
theorem ok_indexVp {P : Program} {E : AEnv} {o : Oper} (t : TypeId) (x i : Operand) (ho : o.op = .indexAddr t x i) {len e sz : Nat} {cs : List AV} {k : IntKind} {n : Int} {r : AV} (hu : P.underlying t = some (.array len e)) (hs : (P.info? e).map (·.size) = some sz) (hX : aeval E x = .vp (.agg cs)) (hJ : aeval E i = .int k n) (h0 : 0 ≤ n ∧ n < len) (hp : aPart P e cs (n.toNat * sz) = some r) : OpOk P o E (.vp r) := .plain fun G w a hE => by
  have hx := hE.get x (by simp [ho, Op.operands, Call.operands])
  have hi := hE.get i (by simp [ho, Op.operands, Call.operands])
  have he : (execOp a.eval o) = (Instr.indexAt t (a.eval x) (a.eval i) >>= fun v => pure (.value v)) := by simp only [execOp, ho]
  rw [he]
  rw [hX] at hx; rw [hJ] at hi
  obtain ⟨inf, hinf, hsz⟩ := Option.map_eq_some_iff.1 hs
  generalize a.eval x = v at *
  generalize a.eval i = u at *
  cases hi
  cases hx with
  | vp h1 hr hl =>
    rename_i b q vs
    exact ⟨.pointer (some ⟨b, q + n.toNat * sz, none⟩), by simp [Instr.indexAt, asIntOf, run_underlying hu, h0.1, h0.2, run_size hinf, hsz, addr_add, Instr.sureAddr], aPart_vp h1 hr hl hp⟩
section
variable {P : Program} {w0 : Base} {ds : List (Option Tmp)} {kind : Kd} {Q : AEnv → St → Prop} {σ : St} {o : Oper} {l : List Oper} {i : Nat} {L : List (Nat × AV)}
end
def kindOfH (ls ks : List Nat) (l : List Oper) (i : Nat) : Nat :=
  match l[i]? with
  | none => 0
  | some o => match o.op with
    | .load .. => 3
    | .alloc _ | .box .. | .store .. => 2
    | .call ⟨.builtin .append, _, _⟩ => 2
    | .call ⟨.value (.func f), _, _⟩ => if ks.contains f then 4 else if ls.contains f then 2 else 0
    | _ => 0
section
variable {P : Program} {w0 : Base} {ds : List (Option Tmp)} {kind : Kd} {Q : AEnv → St → Prop} {σ : St} {o : Oper} {l : List Oper} {i : Nat} {L : List (Nat × AV)}
end
end Go.Al
end
section
set_option linter.unusedVariables false
set_option linter.unusedSimpArgs false
namespace Go.Al
open Go.RowKit
theorem relL_und {G : Gh} {w : World} : ∀ vs : List Value, RelL G w (List.replicate vs.length .und) vs
  | [] => .nil
  | v :: vs => .cons (.und v) (relL_und vs)
theorem length_zeroCells (z : Array Value) (n : Nat) : (Builtin.zeroCells z n).toList.length = n * z.size := by simp [Builtin.zeroCells]
section
variable {P : Program} {w0 : Base} {E : AEnv} {σ : St} {o : Oper} {K : AV → St → Prop}
theorem w_appendN {t u e : TypeId} {i : TypeInfo} {z : Value} (T : AppT P t u e i z) (s x : Operand) (ho : o.op = .call { callee := .builtin .append, args := #[s, x], argTypes := #[t, u] }) {ys : List AV}
    (hs : aeval E s = .nils) (hx : aSrc i.size (aeval E x) = some ys) (hne : ys ≠ []) (hf : AppFits i ys.length)
    (hk : ∀ b cap, σ.box b = none → ys.length ≤ cap → K (.msl b 0 ys.length cap) (σ.setBox b (ys.flatMap AV.cells ++ List.replicate ((cap - ys.length) * i.size) .und))) : OpW P w0 o E σ K := .value fun G w a hI hE => by
  have hsr := hE.get s (by simp [ho, Op.operands, Call.operands])
  rw [hs] at hsr
  have hxr := hE.get x (by simp [ho, Op.operands, Call.operands])
  have he : execOp a.eval o = (Builtin.append_ #[t, u] o.type #[a.eval s, a.eval x] >>= fun v => pure (.value v)) := by simp [execOp, ho, resolve, invoke, builtin]
  rw [he]
  generalize a.eval s = vsl at *
  generalize a.eval x = v at *
  obtain ⟨hl, vs, hfc, hrel, hvl, hys⟩ := src_run (P := P) hx hxr
  cases hsr
  have hpos : 0 < ys.length := List.length_pos_iff.2 hne
  obtain ⟨_, h2⟩ := append_run T o.type (A := none) (len := 0) (cap := 0) hl hfc
  let w1 : World := { w with drawn := w.drawn + 1 }
  have hA : Alike0 w w1 := ⟨rfl, rfl, rfl, rfl⟩
  obtain ⟨_, us, hfc', hrel', hul, _⟩ := src_run (P := P) hx (hxr.ext hA.ext)
  obtain ⟨nc, hnc, hnl, hrun⟩ := h2 (by omega) (by rw [Nat.zero_add]; exact hf.1) (by have := hf.2; simp only [maxLen] at this; omega) #[] us.toArray rfl hfc'
  rw [Nat.zero_add] at hnc hrun
  obtain ⟨b, hb, hsb⟩ := fresh_box (hA.inv hI)
  have hlz : (Builtin.zeroCells z.cells (nc - ys.length)).toList.length = (nc - ys.length) * i.size := by rw [length_zeroCells, T.hs]
  have hcells : RelL G w1 (ys.flatMap AV.cells ++ List.replicate ((nc - ys.length) * i.size) .und) (#[] ++ us.toArray ++ Builtin.zeroCells z.cells (nc - ys.length)).toList := by
    have := hrel'.append (relL_und (G := G) (w := w1) (Builtin.zeroCells z.cells (nc - ys.length)).toList)
    rw [hlz] at this
    simpa using this
  obtain ⟨k1, k2⟩ := inv_box (hA.inv hI) hb e hcells
  exact ⟨_, _, _, _, _, by rw [Sem.run_bind, hrun]; rfl, hk b nc hsb hnc, k1, hA.ext.trans k2, .msl (m := w1.heap.size) (by simp [Gh.withBox]) hnc (by simp only [maxLen]; omega)⟩
theorem w_appendM {t u e : TypeId} {i : TypeInfo} {z : Value} (T : AppT P t u e i z) (s x : Operand) (ho : o.op = .call { callee := .builtin .append, args := #[s, x], argTypes := #[t, u] }) {ys cs : List AV} {b n cap : Nat}
    (hs : aeval E s = .msl b 0 n cap) (hb : σ.box b = some cs) (hcl : cap * i.size ≤ cs.length) (hn : n ≤ cap) (hx : aSrc i.size (aeval E x) = some ys) (hf : AppFits i (n + ys.length))
    (hk1 : n + ys.length ≤ cap → K (.msl b 0 (n + ys.length) cap) (σ.setBox b (setL cs (n * i.size) (ys.flatMap AV.cells))))
    (hk2 : ∀ b' cap', σ.box b' = none → n + ys.length ≤ cap' → K (.msl b' 0 (n + ys.length) cap') (σ.setBox b' (cs.take (n * i.size) ++ ys.flatMap AV.cells ++ List.replicate ((cap' - (n + ys.length)) * i.size) .und))) : OpW P w0 o E σ K := .value fun G w a hI hE => by
  have hsr := hE.get s (by simp [ho, Op.operands, Call.operands])
  rw [hs] at hsr
  have hxr := hE.get x (by simp [ho, Op.operands, Call.operands])
  have he : execOp a.eval o = (Builtin.append_ #[t, u] o.type #[a.eval s, a.eval x] >>= fun v => pure (.value v)) := by simp [execOp, ho, resolve, invoke, builtin]
  rw [he]
  generalize a.eval s = vsl at *
  generalize a.eval x = v at *
  obtain ⟨hl, vs, hfc, hrel, hvl, hys⟩ := src_run (P := P) hx hxr
  cases hsr with
  | msl hgb hc hm =>
    rename_i mm
    obtain ⟨m, c, T', k1, k2, k3, k4, k5⟩ := (hI.box b cs hb).ex
    obtain rfl : m = mm := by rw [k1] at hgb; exact Option.some.inj hgb
    have hcsz : cs.length = c.size := by rw [← k4.length]; simp
    obtain ⟨h1, h2⟩ := append_run T o.type (A := some ⟨m, 0, none⟩) (len := n) (cap := cap) hl hfc
    by_cases hroom : n + ys.length ≤ cap
    · have hmul : (n + ys.length) * i.size ≤ cap * i.size := Nat.mul_le_mul_right _ hroom
      have hadd : (n + ys.length) * i.size = n * i.size + ys.length * i.size := Nat.add_mul ..
      obtain ⟨w', hrun, R⟩ := run_storeCells P m T' (0, 0) (n * i.size) vs 0 c w k3 (.inl rfl) (by omega) (relL_oneCell hrel (fun x hx => by
        obtain ⟨y, hy, hc⟩ := List.mem_flatMap.1 hx
        exact (hys y hy).2 x hc))
      rw [Nat.add_zero] at R
      obtain ⟨hI', ex⟩ := hI.write (cs' := setL cs (n * i.size) (ys.flatMap AV.cells)) hb k1 k3 k5 k2 R (fun e => setAll_rel (n * i.size) (hrel.ext e) (k4.ext e))
      refine ⟨.slice (some ⟨m, 0, none⟩) (n + ys.length) cap, w', _, _, _, ?_, hk1 hroom, hI', ex, .msl k1 hroom hm⟩
      rw [Sem.run_bind, h1 hroom]
      simp only [addr_add, Nat.zero_add, hrun, Result.andThen_ok]
      rfl
    · let w1 : World := { w with drawn := w.drawn + 1 }
      have hA : Alike0 w w1 := ⟨rfl, rfl, rfl, rfl⟩
      obtain ⟨_, us, hfc', hrel', hul, _⟩ := src_run (P := P) hx (hxr.ext hA.ext)
      have hfirst : (Builtin.firstCells i.size n (.slice (some ⟨m, 0, none⟩) n cap)).run P w1 = .ok (c.toList.take (n * i.size)).toArray w1 := by
        have hnm : n * i.size ≤ cap * i.size := Nat.mul_le_mul_right _ hn
        have hlen : (c.toList.take (n * i.size)).length = n * i.size := by simp; omega
        simp only [Builtin.firstCells]
        have := run_loadCells_list (P := P) w1 ⟨m, 0, none⟩ (c.toList.take (n * i.size)) (fun j v hj => by
          rw [addr_add, Nat.zero_add, cell_block (w := w1) (c := c) (T := T') (fr := (0, 0)) k3]
          rw [List.getElem?_take] at hj
          split at hj
          · simpa using hj
          · cases hj)
        rw [hlen] at this
        exact this
      obtain ⟨nc, hnc, hnl, hrun⟩ := h2 (by omega) hf.1 (by have := hf.2; simp only [maxLen] at this; omega) (c.toList.take (n * i.size)).toArray us.toArray hfirst hfc'
      obtain ⟨b', hb', hsb⟩ := fresh_box (hA.inv hI)
      have hlz : (Builtin.zeroCells z.cells (nc - (n + ys.length))).toList.length = (nc - (n + ys.length)) * i.size := by rw [length_zeroCells, T.hs]
      have hcells : RelL G w1 (cs.take (n * i.size) ++ ys.flatMap AV.cells ++ List.replicate ((nc - (n + ys.length)) * i.size) .und) ((c.toList.take (n * i.size)).toArray ++ us.toArray ++ Builtin.zeroCells z.cells (nc - (n + ys.length))).toList := by
        have := (((k4.ext hA.ext).take (n * i.size)).append hrel').append (relL_und (G := G) (w := w1) (Builtin.zeroCells z.cells (nc - (n + ys.length))).toList)
        rw [hlz] at this
        simpa using this
      obtain ⟨q1, q2⟩ := inv_box (hA.inv hI) hb' e hcells
      exact ⟨_, _, _, _, _, by rw [Sem.run_bind, hrun]; rfl, hk2 b' nc hsb hnc, q1, hA.ext.trans q2, .msl (m := w1.heap.size) (by simp [Gh.withBox]) hnc (by simp only [maxLen]; omega)⟩
end
section
variable {P : Program} {w0 : Base} {ds : List (Option Tmp)} {kind : Kd} {Q : AEnv → St → Prop} {σ : St} {o : Oper} {l : List Oper} {i : Nat} {L : List (Nat × AV)}
end
theorem a_lenM {P : Program} {E : AEnv} {x : Operand} {t e : TypeId} [hu : TyU P t (.slice e)] {b off n cap : Nat} (h : aeval E x = .msl b off n cap) : Yields P E (.call ⟨.builtin .len, #[x], #[t]⟩) (.int .i64 n) := by
  refine ⟨?_⟩
  simp [aop, aBuiltin, aLen, hu.h, h]
end Go.Al
end
section
set_option linter.unusedVariables false
set_option linter.unusedSimpArgs false
namespace Go.Al
open Go.RowKit
def eqCell : AV → AV → Option Bool
  | .int k a, .int k' b => if k = k' then some (a == b) else none
  | .bool a, .bool b => some (a == b)
  | .str a, .str b => some (a == b)
  | _, _ => none
def eqCells : List AV → List AV → Option Bool
  | [], [] => some true
  | x :: xs, y :: ys => match eqCell x y, eqCells xs ys with
    | some a, some b => some (a && b)
    | _, _ => none
  | _, _ => none
def cellD : AV → TypeDesc → Bool
  | .int k _, .int k' => k == k'
  | .bool _, .bool => true
  | .str _, .string => true
  | _, _ => false
def flatFrom (P : Program) : Nat → List Field → List AV → Bool
  | _, [], [] => true
  | k, f :: fs, x :: xs => (f.name != "_") && (f.offset == k) && (((P.underlying f.type).map (cellD x)).getD false) && flatFrom P (k + 1) fs xs
  | _, _, _ => false
class FlatEq (P : Program) (t : TypeId) : Prop where
  h : (∃ fs : List Field, P.underlying t = some (.struct fs.toArray)) ∧ P.stoodInHeld t = false ∧ P.eqGuardType P.depth t = false
theorem run_isAgg_cell {P : Program} {w : World} {t : TypeId} {x : AV} {d : TypeDesc} (hu : P.underlying t = some d) (hc : cellD x d = true) : (isAgg t).run P w = .ok false w := by
  rw [run_isAgg hu]
  cases x <;> cases d <;> simp [cellD] at hc <;> rfl
theorem run_part_cell {P : Program} {w : World} {t : TypeId} {x : AV} {d : TypeDesc} {cs : Array Value} {k : Nat} {v : Value} (hu : P.underlying t = some d) (hc : cellD x d = true) (hv : cs[k]? = some v) : (part t cs k).run P w = .ok v w := by
  unfold part
  rw [Sem.run_bind, run_isAgg_cell hu hc]
  simp [hv]
theorem run_eqCell {P : Program} {G : Gh} {w : World} {d : Nat} {t : TypeId} {x y : AV} {u v : Value} {D : TypeDesc} {b : Bool} (hu : P.underlying t = some D) (hc : cellD x D = true) (hx : Rel G w x u) (hy : Rel G w y v) (h : eqCell x y = some b) : (Op.equalIn (d + 1) t u v).run P w = .ok b w := by
  unfold eqCell at h
  split at h
  · split at h
    · rename_i k a k' b' hk
      subst hk
      cases h
      cases hx; cases hy
      cases D <;> simp [cellD] at hc
      exact run_equalIn_int w d t _ _ _ _ hu
    · cases h
  · cases h
    cases hx; cases hy
    cases D <;> simp [cellD] at hc
    exact run_equalIn_bool' w d t _ _ hu
  · cases h
    cases hx; cases hy
    cases D <;> simp [cellD] at hc
    rw [run_equalIn_string w d t _ _ hu]
    simp
  · cases h
theorem run_eqFields {P : Program} {G : Gh} {w : World} (d : Nat) {X Y : Array Value} : ∀ (fs : List Field) (k : Nat) (xs ys : List AV) (b : Bool), flatFrom P k fs xs = true → RelL G w xs (X.toList.drop k) → RelL G w ys (Y.toList.drop k) → eqCells xs ys = some b → (Op.eqFields (d + 1) X Y fs).run P w = .ok b w
  | [], k, [], ys, b, hf, hx, hy, h => by
    cases ys with
    | nil => simp only [eqCells, Option.some.injEq] at h; subst h; rfl
    | cons y ys => simp [eqCells] at h
  | f :: fs, k, x :: xs, ys, b, hf, hx, hy, h => by
    cases ys with
    | nil => simp [eqCells] at h
    | cons y ys =>
      simp only [flatFrom, Bool.and_eq_true, bne_iff_ne, ne_eq, beq_iff_eq] at hf
      obtain ⟨⟨⟨hn, ho⟩, hd⟩, hrest⟩ := hf
      cases hu : P.underlying f.type with
      | none => rw [hu] at hd; cases hd
      | some D =>
        rw [hu] at hd
        have hd : cellD x D = true := hd
        rw [eqCells] at h
        cases ha : eqCell x y with
        | none => rw [ha] at h; simp at h
        | some a =>
          cases hb : eqCells xs ys with
          | none => rw [ha, hb] at h; simp at h
          | some b' =>
            rw [ha, hb] at h
            simp only [Option.some.injEq] at h
            obtain ⟨u, hu', hxu⟩ := hx.get (i := 0) rfl
            obtain ⟨v, hv', hyv⟩ := hy.get (i := 0) rfl
            have hX : X[f.offset]? = some u := by rw [ho, ← Array.getElem?_toList]; rw [List.getElem?_drop] at hu'; simpa using hu'
            have hY : Y[f.offset]? = some v := by rw [ho, ← Array.getElem?_toList]; rw [List.getElem?_drop] at hv'; simpa using hv'
            have hx2 : RelL G w xs (X.toList.drop (k + 1)) := by
              have := hx.drop 1
              rw [List.drop_drop] at this
              simpa using this
            have hy2 : RelL G w ys (Y.toList.drop (k + 1)) := by
              have := hy.drop 1
              rw [List.drop_drop] at this
              simpa using this
            have ih := run_eqFields d fs (k + 1) xs ys b' hrest hx2 hy2 hb
            simp only [Op.eqFields, if_pos hn, Sem.run_bind, run_part_cell hu hd hX, run_part_cell hu hd hY, Result.andThen_ok, run_eqCell hu hd hxu hyv ha, Sem.run_ite]
            subst h
            cases a
            · simp
            · simp only [Bool.not_true, Bool.false_eq_true, if_false, Bool.true_and]
              exact ih
  | [], _, _ :: _, _, _, hf, _, _, _ => by simp [flatFrom] at hf
  | _ :: _, _, [], _, _, hf, _, _, _ => by simp [flatFrom] at hf
section
variable {P : Program} {E : AEnv} {o : Oper}
theorem ok_eqAgg {op : BinOp} {t yt : TypeId} {x y : Operand} (ho : o.op = .binOp op t x y yt) (hT : FlatEq P t) {xs ys : List AV} (hX : aeval E x = .agg xs) (hY : aeval E y = .agg ys) (hf : ∀ fs : List Field, P.underlying t = some (.struct fs.toArray) → flatFrom P 0 fs xs = true) {b : Bool} (hb : eqCells xs ys = some b) {r : AV} (hr : aEqOp op b = some r) : OpOk P o E r := .plain fun G w a hE => by
  have hx := hE.get x (by simp [ho, Op.operands])
  have hy := hE.get y (by simp [ho, Op.operands])
  rw [hX] at hx; rw [hY] at hy
  obtain ⟨⟨fs, h1⟩, h2, h3⟩ := hT.h
  have hf := hf fs h1
  generalize hu : a.eval x = u at hx
  generalize hv : a.eval y = v at hy
  cases hx with
  | @agg _ us _ rx =>
    cases hy with
    | @agg _ vs _ ry =>
      have hfo : P.fieldsOf t = fs.toArray := by unfold Program.fieldsOf; rw [h1]
      have hrun := run_eqFields (P := P) 9998 (X := us.toArray) (Y := vs.toArray) fs 0 xs ys b hf (by simpa using rx) (by simpa using ry) hb
      have heq : (Op.equalIn 10000 t (.agg us.toArray) (.agg vs.toArray)).run P w = .ok b w := by
        rw [run_equalIn_struct w 9999 t _ _ (by rw [hfo]; exact h1) h2, hfo]
        exact hrun
      have hg : (eqGuard op t x y (.agg us.toArray) (.agg vs.toArray)).run P w = .ok () w := run_eqGuard_agg w op t x y _ _ h3
      cases op <;> simp only [aEqOp, reduceCtorEq, Option.some.injEq] at hr
      · subst hr
        refine ⟨.bool b, ?_, .bool b⟩
        simp only [execOp, ho, hu, hv, Sem.run_bind, hg, Result.andThen_ok, run_eql_struct, heq]
        rfl
      · subst hr
        refine ⟨.bool (!b), ?_, .bool _⟩
        simp only [execOp, ho, hu, hv, Sem.run_bind, hg, Result.andThen_ok, run_neq_struct, heq]
        rfl
end
section
variable {P : Program} {w0 : Base} {ds : List (Option Tmp)} {kind : Kd} {Q : AEnv → St → Prop} {σ : St} {o : Oper} {l : List Oper} {i : Nat} {L : List (Nat × AV)}
end
theorem a_quo8 {P : Program} {E : AEnv} {x y : Operand} {t yt : TypeId} {a b : Int} (hx : aeval E x = .int .u8 a) (hy : aeval E y = .int .u8 b) (h : (0 ≤ a ∧ a ≤ 255) ∧ 1 ≤ b) : Yields P E (.binOp .quo t x y yt) (.int .u8 (a / b)) := by
  refine a_binI hx hy ?_
  have hb : b ≠ 0 := by omega
  have h1 : a / b ≤ a := Int.ediv_le_self _ h.1.1
  have h2 : 0 ≤ a / b := Int.ediv_nonneg h.1.1 (by omega)
  have e : IntKind.u8.wrap (a.tdiv b) = a / b := by
    rw [Int.tdiv_eq_ediv_of_nonneg h.1.1]; exact IntWalk.u8_in _ (by omega)
  simp [aIntOp, hb, e]
end Go.Al
end
section
set_option linter.unusedVariables false
set_option linter.unusedSimpArgs false
namespace Go.Al
open Go.RowKit

abbrev SL := List (Nat × AV)
abbrev BL := List (Nat × List AV)
def nth {α : Type} : List α → Nat → Option α
  | [], _ => none
  | x :: _, 0 => some x
  | _ :: l, n + 1 => nth l n
theorem nth_eq {α : Type} : ∀ (l : List α) (n : Nat), nth l n = l[n]?
  | [], n => by simp [nth]
  | x :: l, 0 => by simp [nth]
  | x :: l, n + 1 => by rw [nth, nth_eq l n]; simp
def lk : SL → Nat → AV
  | [], _ => .und
  | (k, x) :: l, t => bif Nat.beq t k then x else lk l t
theorem lk_eq : ∀ (L : SL) (t : Nat), lk L t = env L t
  | [], t => rfl
  | (k, x) :: l, t => by
    rw [lk, env, lk_eq l t]
    by_cases h : t = k
    · subst h; simp
    · have : Nat.beq t k = false := by
        cases hb : Nat.beq t k with
        | false => rfl
        | true => exact absurd (Nat.eq_of_beq_eq_true hb) h
      rw [this, if_neg h]; rfl
def ev (L : SL) : Operand → AV
  | .tmp t => lk L t
  | .const v => aConst v
  | .global _ => .und
  | .func f => .fn (.func f) [] []
theorem ev_eq (L : SL) (x : Operand) : ev L x = aeval (env L) x := by cases x <;> simp [ev, aeval, lk_eq]
def evs (L : SL) : List Operand → List AV
  | [] => []
  | x :: l => ev L x :: evs L l
theorem evs_eq (L : SL) : ∀ l, evs L l = evals (env L) l
  | [] => rfl
  | x :: l => by rw [evs, evals, evs_eq L l, ev_eq]
def fS : List UInt8 → (List UInt8 → Prop) → Prop
  | [], k => k []
  | x :: l, k => fS l fun l' => k (x :: l')
theorem fS_eq : ∀ (l : List UInt8) (k : List UInt8 → Prop), fS l k = k l
  | [], k => rfl
  | x :: l, k => by rw [fS, fS_eq l]
def fL (f : AV → (AV → Prop) → Prop) : List AV → (List AV → Prop) → Prop
  | [], k => k []
  | x :: l, k => f x fun x' => fL f l fun l' => k (x' :: l')
def fAV : Nat → AV → (AV → Prop) → Prop
  | 0, x, k => k x
  | n + 1, x, k =>
    match x with
    | .und => k .und
    | .int kk m => k (.int kk m)
    | .bool b => k (.bool b)
    | .str s => k (.str s)
    | .nils => k .nils
    | .slc sz xs t => k (.slc sz xs t)
    | .msl b o m c => k (.msl b o m c)
    | .agg cs => fL (fAV n) cs fun cs' => k (.agg cs')
    | .tup cs => fL (fAV n) cs fun cs' => k (.tup cs')
    | .ptr b o => k (.ptr b o)
    | .nilp => k .nilp
    | .vp y => fAV n y fun y' => k (.vp y')
    | .fn f a c => fL (fAV n) a fun a' => fL (fAV n) c fun c' => k (.fn f a' c')
    | .nilfn => k .nilfn
    | .ifc t y => fAV n y fun y' => k (.ifc t y')
    | .nilifc => k .nilifc
    | .mp m => k (.mp m)
    | .it m => k (.it m)
    | .nilmp => k .nilmp
theorem fL_eq {f : AV → (AV → Prop) → Prop} (hf : ∀ x k, f x k = k x) : ∀ (l : List AV) (k : List AV → Prop), fL f l k = k l
  | [], k => rfl
  | x :: l, k => by rw [fL, hf, fL_eq hf l]
theorem fAV_eq : ∀ (n : Nat) (x : AV) (k : AV → Prop), fAV n x k = k x
  | 0, x, k => rfl
  | n + 1, x, k => by
    have h := fAV_eq n
    cases x <;> simp only [fAV, fL_eq h, h]
def xV (L : SL) (x : Operand) (k : AV → Prop) : Prop :=
  match x with
  | .const (.string s) => fS s.data.toList fun l => k (.str l)
  | x => fAV 4 (ev L x) k
theorem xV_eq (L : SL) (x : Operand) (k : AV → Prop) : xV L x k = k (ev L x) := by
  unfold xV
  split
  · rw [fS_eq]; rfl
  · rw [fAV_eq]
def xVs (L : SL) : List Operand → (List AV → Prop) → Prop
  | [], k => k []
  | x :: l, k => xV L x fun v => xVs L l fun vs => k (v :: vs)
theorem xVs_eq (L : SL) : ∀ (l : List Operand) (k : List AV → Prop), xVs L l k = k (evs L l)
  | [], k => rfl
  | x :: l, k => by rw [xVs, xV_eq, xVs_eq L l]; rfl
def xCells (v : AV) (k : List AV → Prop) : Prop :=
  match v with
  | .agg cs => k cs
  | x => k [x]
theorem xCells_eq (v : AV) (k : List AV → Prop) : xCells v k = k v.cells := by cases v <;> rfl
inductive TK where
  | other | bool | int (k : IntKind) | str | ptr | fn | ifc
  | slc (e sz : Nat) (u8 : Bool)
  | arr (n e sz : Nat) (agg : Bool) (z : List AV)
  | struct (fs : List (Nat × Nat × Bool)) (z : List AV)
structure TI where
  k : TK
  sz : Nat
inductive TT where
  | leaf
  | node (l : TT) (t : Nat) (i : TI) (r : TT)
def TT.look : TT → Nat → TI
  | .leaf, _ => ⟨.other, 0⟩
  | .node l t i r, s => bif Nat.beq s t then i else bif Nat.blt s t then l.look s else r.look s
def okF (P : Program) (t : Nat) : Nat → List (Nat × Nat × Bool) → Prop
  | _, [] => True
  | f, (off, sz, agg) :: l => (∃ ft, TyF P t f ft off sz agg) ∧ okF P t (f + 1) l
structure Sc (P : Program) (t : Nat) (z : AV) : Prop where
  s : TyS P t 1
  z : aZero P t = some [z]
def TI.ok (P : Program) (t : Nat) (i : TI) : Prop :=
  match i.k with
  | .other => True
  | .bool => TyU P t .bool ∧ Sc P t (.bool false)
  | .int k => TyU P t (.int k) ∧ Sc P t (.int k 0)
  | .str => TyU P t .string ∧ Sc P t (.str [])
  | .ptr => (∃ e, TyU P t (.pointer e)) ∧ Sc P t .nilp
  | .fn => (∃ p q z, TyU P t (.func p q z)) ∧ Sc P t .nilfn
  | .ifc => TyI P t ∧ Sc P t .nilifc
  | .slc e sz u8 => (TyU P t (.slice e) ∧ Sc P t .nils) ∧ TyS P e sz ∧ (u8 = true → TyU P e (.int .u8)) ∧ SlI P t sz
  | .arr n e sz agg z => (TyU P t (.array n e) ∧ TyS P t i.sz) ∧ TyS P e sz ∧ TyA P e agg ∧ aZero P t = some z ∧ BldI P t z ((List.range n).map fun j => (j * sz, sz))
  | .struct fs z => (TyA P t true ∧ TyS P t i.sz) ∧ okF P t 0 fs ∧ aZero P t = some z ∧ BldI P t z (fs.map fun p => (p.1, p.2.1))
def TT.ok (P : Program) : TT → Prop
  | .leaf => True
  | .node l t i r => l.ok P ∧ i.ok P t ∧ r.ok P
theorem TT.ok_look {P : Program} : ∀ {T : TT}, T.ok P → ∀ t, (T.look t).ok P t
  | .leaf, _, t => trivial
  | .node l t i r, h, s => by
    rw [TT.look]
    cases hb : Nat.beq s t with
    | true =>
      have := Nat.eq_of_beq_eq_true hb
      subst this
      exact h.2.1
    | false =>
      simp only [cond_false]
      cases Nat.blt s t
      · exact TT.ok_look h.2.2 s
      · exact TT.ok_look h.1 s
theorem okF_get {P : Program} {t : Nat} : ∀ {l : List (Nat × Nat × Bool)} {k f : Nat} {p : Nat × Nat × Bool}, okF P t k l → nth l f = some p → ∃ ft, TyF P t (k + f) ft p.1 p.2.1 p.2.2
  | [], k, f, p, h, e => by simp [nth] at e
  | (off, sz, agg) :: l, k, 0, p, h, e => by
    simp only [nth, Option.some.injEq] at e
    subst e
    exact h.1
  | (off, sz, agg) :: l, k, f + 1, p, h, e => by
    have := okF_get (k := k + 1) h.2 (by simpa [nth] using e)
    rwa [show k + 1 + f = k + (f + 1) by omega] at this
def xInt (op : BinOp) (k : IntKind) (a : Int) (k' : IntKind) (b : Int) (stop : Prop) (K : AV → Prop) : Prop :=
  match op with
  | .add => match k, k' with
    | .i64, .i64 => ∃ m, IntKind.i64.wrap (a + b) = m ∧ K (.int .i64 m)
    | .u8, .u8 => K (.int .u8 ((byteOf (a + b)).toNat : Nat))
    | _, _ => stop
  | .sub => match k, k' with
    | .i64, .i64 => ∃ m, IntKind.i64.wrap (a - b) = m ∧ K (.int .i64 m)
    | .u8, .u8 => K (.int .u8 ((byteOf (a - b)).toNat : Nat))
    | _, _ => stop
  | .mul => match k, k' with
    | .i64, .i64 => ∃ m, IntKind.i64.wrap (a * b) = m ∧ K (.int .i64 m)
    | _, _ => stop
  | .quo => match k, k' with
    | .i64, .i64 => (0 ≤ a ∧ a ≤ 9223372036854775807 ∧ 1 ≤ b) ∧ K (.int .i64 (a / b))
    | .u8, .u8 => ((0 ≤ a ∧ a ≤ 255) ∧ 1 ≤ b) ∧ K (.int .u8 (a / b))
    | _, _ => stop
  | .rem => if k = k' then (0 ≤ a ∧ b ≠ 0) ∧ K (.int k (a % b)) else stop
  | .and => if k = k' then ∃ m, k.wrap ((BitVec.ofInt k.bits a &&& BitVec.ofInt k.bits b).toNat) = m ∧ K (.int k m) else stop
  | .or => if k = k' then ∃ m, k.wrap ((BitVec.ofInt k.bits a ||| BitVec.ofInt k.bits b).toNat) = m ∧ K (.int k m) else stop
  | .shr => 0 ≤ b ∧ ∃ m, a.fdiv (2 ^ (min b.toNat k.bits)) = m ∧ K (.int k m)
  | .shl => 0 ≤ b ∧ ∃ m, k.wrap (a * 2 ^ (min b.toNat k.bits)) = m ∧ K (.int k m)
  | .eql => if k = k' then K (.bool (decide (a = b))) else stop
  | .neq => if k = k' then K (.bool (!decide (a = b))) else stop
  | .lss => if k = k' then K (.bool (decide (a < b))) else stop
  | .leq => if k = k' then K (.bool (decide (a ≤ b))) else stop
  | .gtr => if k = k' then K (.bool (decide (b < a))) else stop
  | .geq => if k = k' then K (.bool (decide (b ≤ a))) else stop
  | _ => stop
theorem xInt_ok {P : Program} {E : AEnv} {x y : Operand} {t yt : TypeId} {op : BinOp} {k k' : IntKind} {a b : Int} {stop : Prop} {K : AV → Prop} (hx : aeval E x = .int k a) (hy : aeval E y = .int k' b) (h : xInt op k a k' b stop K) :
    stop ∨ ∃ r, Yields P E (.binOp op t x y yt) r ∧ K r := by
  unfold xInt at h
  split at h
  · split at h
    · obtain ⟨m, hm, h⟩ := h; subst hm; exact .inr ⟨_, a_binI hx hy (by simp only [aIntOp, if_true]), h⟩
    · exact .inr ⟨_, a_u8add hx hy, h⟩
    · exact .inl h
  · split at h
    · obtain ⟨m, hm, h⟩ := h; subst hm; exact .inr ⟨_, a_binI hx hy (by simp only [aIntOp, if_true]), h⟩
    · exact .inr ⟨_, a_u8sub hx hy, h⟩
    · exact .inl h
  · split at h
    · obtain ⟨m, hm, h⟩ := h; subst hm; exact .inr ⟨_, a_binI hx hy (by simp only [aIntOp, if_true]), h⟩
    · exact .inl h
  · split at h
    · exact .inr ⟨_, a_quo64 hx hy h.1, h.2⟩
    · exact .inr ⟨_, a_quo8 hx hy h.1, h.2⟩
    · exact .inl h
  · split at h
    · rename_i e; subst e; exact .inr ⟨_, a_rem hx hy h.1, h.2⟩
    · exact .inl h
  · split at h
    · rename_i e; subst e; obtain ⟨m, hm, h⟩ := h; subst hm; exact .inr ⟨_, a_binI hx hy (by simp only [aIntOp, if_true]), h⟩
    · exact .inl h
  · split at h
    · rename_i e; subst e; obtain ⟨m, hm, h⟩ := h; subst hm; exact .inr ⟨_, a_binI hx hy (by simp only [aIntOp, if_true]), h⟩
    · exact .inl h
  · obtain ⟨hb, m, hm, h⟩ := h
    subst hm
    have hb' : ¬ b < 0 := by omega
    exact .inr ⟨_, a_binI hx hy (by simp only [aIntOp, if_neg hb']), h⟩
  · obtain ⟨hb, m, hm, h⟩ := h
    subst hm
    have hb' : ¬ b < 0 := by omega
    exact .inr ⟨_, a_binI hx hy (by simp only [aIntOp, if_neg hb']), h⟩
  all_goals first
    | (split at h
       · rename_i e; subst e; exact .inr ⟨_, a_binI hx hy (by simp only [aIntOp, if_true]), h⟩
       · exact .inl h)
    | exact .inl h
def xStr (op : BinOp) (a b : List UInt8) (stop : Prop) (K : AV → Prop) : Prop :=
  match op with
  | .add => a.length + b.length ≤ 9223372036854775807 ∧ K (.str (a ++ b))
  | .eql => K (.bool (decide (a = b)))
  | .neq => K (.bool (!decide (a = b)))
  | .lss => K (.bool (ltS a b))
  | .leq => K (.bool (ltS a b || decide (a = b)))
  | .gtr => K (.bool (!(ltS a b || decide (a = b))))
  | .geq => K (.bool (!ltS a b))
  | _ => stop
theorem xStr_ok {P : Program} {E : AEnv} {x y : Operand} {t yt : TypeId} {op : BinOp} {a b : List UInt8} {stop : Prop} {K : AV → Prop} (hx : aeval E x = .str a) (hy : aeval E y = .str b) (h : xStr op a b stop K) :
    stop ∨ ∃ r, Yields P E (.binOp op t x y yt) r ∧ K r := by
  unfold xStr at h
  split at h
  · exact .inr ⟨_, a_addS hx hy h.1, h.2⟩
  all_goals first
    | exact .inr ⟨_, a_binS hx hy rfl rfl, h⟩
    | exact .inl h
def xEq (op : BinOp) (b : Bool) (stop : Prop) (K : AV → Prop) : Prop :=
  match op with
  | .eql => K (.bool b)
  | .neq => K (.bool (!b))
  | _ => stop
theorem xEq_ok {op : BinOp} {b : Bool} {stop : Prop} {K : AV → Prop} (h : xEq op b stop K) : stop ∨ ∃ r, aEqOp op b = some r ∧ K r := by
  unfold xEq at h
  split at h
  · exact .inr ⟨_, rfl, h⟩
  · exact .inr ⟨_, rfl, h⟩
  · exact .inl h
def xBin (T : TT) (op : BinOp) (t : TypeId) (cy : Bool) (stop : Prop) (K : AV → Prop) (x y : AV) : Prop :=
  match x, y with
  | .int k a, .int k' b => xInt op k a k' b stop K
  | .str a, .str b => xStr op a b stop K
  | .bool a, .bool b => match (T.look t).k with
    | .bool => xEq op (a == b) stop K
    | _ => stop
  | x, .nilp => match cy, (T.look t).k, x with
    | true, .ptr, .nilp => xEq op true stop K
    | true, .ptr, .ptr _ _ => xEq op false stop K
    | true, .ptr, .vp _ => xEq op false stop K
    | _, _, _ => stop
  | x, .nils => match cy, (T.look t).k, x with
    | true, .slc .., .nils => xEq op true stop K
    | true, .slc .., .slc (_ + 1) (_ :: _) _ => xEq op false stop K
    | _, _, _ => stop
  | x, .nilfn => match cy, (T.look t).k, x with
    | true, .fn, .nilfn => xEq op true stop K
    | true, .fn, .fn .. => xEq op false stop K
    | _, _, _ => stop
  | x, .nilifc => match cy, (T.look t).k, x with
    | true, .ifc, .nilifc => xEq op true stop K
    | true, .ifc, .ifc .. => xEq op false stop K
    | _, _, _ => stop
  | _, _ => stop
theorem xBin_ok {P : Program} {T : TT} (hT : T.ok P) {E : AEnv} {x y : Operand} {t yt : TypeId} {op : BinOp} {a b : AV} {stop : Prop} {K : AV → Prop} (hx : aeval E x = a) (hy : aeval E y = b) (h : xBin T op t (isConstB y) stop K a b) :
    stop ∨ ∃ r, Yields P E (.binOp op t x y yt) r ∧ K r := by
  have ht := TT.ok_look hT t
  unfold xBin at h
  split at h
  · exact xInt_ok hx hy h
  · exact xStr_ok hx hy h
  · split at h
    · rename_i hk
      rw [TI.ok, hk] at ht
      have := ht.1
      rcases xEq_ok h with h | ⟨r, h1, h2⟩
      · exact .inl h
      · exact .inr ⟨_, a_binB hx hy h1, h2⟩
    · exact .inl h
  · split at h
    · rename_i hc hk
      rw [TI.ok, hk] at ht
      obtain ⟨⟨e, hu⟩, _⟩ := ht
      rcases xEq_ok h with h | ⟨r, h1, h2⟩
      · exact .inl h
      · exact .inr ⟨_, a_nilP hx hy rfl hc rfl h1, h2⟩
    · rename_i hc hk
      rw [TI.ok, hk] at ht
      obtain ⟨⟨e, hu⟩, _⟩ := ht
      rcases xEq_ok h with h | ⟨r, h1, h2⟩
      · exact .inl h
      · exact .inr ⟨_, a_nilP hx hy rfl hc rfl h1, h2⟩
    · rename_i hc hk
      rw [TI.ok, hk] at ht
      obtain ⟨⟨e, hu⟩, _⟩ := ht
      rcases xEq_ok h with h | ⟨r, h1, h2⟩
      · exact .inl h
      · exact .inr ⟨_, a_nilP hx hy rfl hc rfl h1, h2⟩
    · exact .inl h
  · split at h
    · rename_i hc hk
      rw [TI.ok, hk] at ht
      obtain ⟨⟨hu, _⟩, _⟩ := ht
      rcases xEq_ok h with h | ⟨r, h1, h2⟩
      · exact .inl h
      · exact .inr ⟨_, a_nilS hx hy rfl hc rfl h1, h2⟩
    · rename_i hc hk
      rw [TI.ok, hk] at ht
      obtain ⟨⟨hu, _⟩, _⟩ := ht
      rcases xEq_ok h with h | ⟨r, h1, h2⟩
      · exact .inl h
      · exact .inr ⟨_, a_nilS hx hy rfl hc rfl h1, h2⟩
    · exact .inl h
  · split at h
    · rename_i hc hk
      rw [TI.ok, hk] at ht
      obtain ⟨⟨p, q, z, hu⟩, _⟩ := ht
      rcases xEq_ok h with h | ⟨r, h1, h2⟩
      · exact .inl h
      · exact .inr ⟨_, a_nilF hx hy rfl hc rfl h1, h2⟩
    · rename_i hc hk
      rw [TI.ok, hk] at ht
      obtain ⟨⟨p, q, z, hu⟩, _⟩ := ht
      rcases xEq_ok h with h | ⟨r, h1, h2⟩
      · exact .inl h
      · exact .inr ⟨_, a_nilF hx hy rfl hc rfl h1, h2⟩
    · exact .inl h
  · split at h
    · rename_i hc hk
      rw [TI.ok, hk] at ht
      have := ht.1
      rcases xEq_ok h with h | ⟨r, h1, h2⟩
      · exact .inl h
      · exact .inr ⟨_, a_nilI hx hy (.inl rfl) hc rfl h1, h2⟩
    · rename_i hc hk
      rw [TI.ok, hk] at ht
      have := ht.1
      rcases xEq_ok h with h | ⟨r, h1, h2⟩
      · exact .inl h
      · exact .inr ⟨_, a_nilI hx hy (.inr ⟨_, _, rfl⟩) hc rfl h1, h2⟩
    · exact .inl h
  · exact .inl h
def xLoad (T : TT) (t : TypeId) (cs : List AV) (off : Nat) (stop : Prop) (K : AV → Prop) : Prop :=
  match (T.look t).k with
  | .other => stop
  | .struct .. => if ((cs.drop off).take (T.look t).sz).length = (T.look t).sz ∧ ((cs.drop off).take (T.look t).sz).all AV.one = true then K (.agg ((cs.drop off).take (T.look t).sz)) else stop
  | .arr .. => if ((cs.drop off).take (T.look t).sz).length = (T.look t).sz ∧ ((cs.drop off).take (T.look t).sz).all AV.one = true then K (.agg ((cs.drop off).take (T.look t).sz)) else stop
  | _ => match nth cs off with
    | some r => K r
    | none => stop
theorem TI.scal {P : Program} {t : Nat} {i : TI} (h : i.ok P t) : i.k = .other ∨ (∃ fs z, i.k = .struct fs z) ∨ (∃ n e sz agg z, i.k = .arr n e sz agg z) ∨ ((∃ d, P.underlying t = some d ∧ aggD d = false) ∧ TyS P t 1) := by
  unfold TI.ok at h
  split at h
  · exact .inl (by assumption)
  · exact .inr (.inr (.inr ⟨⟨_, h.1.h, rfl⟩, h.2.s⟩))
  · exact .inr (.inr (.inr ⟨⟨_, h.1.h, rfl⟩, h.2.s⟩))
  · exact .inr (.inr (.inr ⟨⟨_, h.1.h, rfl⟩, h.2.s⟩))
  · obtain ⟨⟨e, hu⟩, hs⟩ := h
    exact .inr (.inr (.inr ⟨⟨_, hu.h, rfl⟩, hs.s⟩))
  · obtain ⟨⟨p, q, z, hu⟩, hs⟩ := h
    exact .inr (.inr (.inr ⟨⟨_, hu.h, rfl⟩, hs.s⟩))
  · obtain ⟨⟨m, hu⟩, hs⟩ := h
    exact .inr (.inr (.inr ⟨⟨_, hu, rfl⟩, hs.s⟩))
  · exact .inr (.inr (.inr ⟨⟨_, h.1.1.h, rfl⟩, h.1.2.s⟩))
  · exact .inr (.inr (.inl ⟨_, _, _, _, _, by assumption⟩))
  · exact .inr (.inl ⟨_, _, by assumption⟩)
def TK.zero : TK → Option (List AV)
  | .other => none
  | .bool => some [.bool false]
  | .int k => some [.int k 0]
  | .str => some [.str []]
  | .ptr => some [.nilp]
  | .fn => some [.nilfn]
  | .ifc => some [.nilifc]
  | .slc .. => some [.nils]
  | .arr _ _ _ _ z => some z
  | .struct _ z => some z
theorem TI.zero_ok {P : Program} {t : Nat} {i : TI} (h : i.ok P t) {z : List AV} (hz : i.k.zero = some z) : aZero P t = some z := by
  unfold TI.ok at h
  split at h <;> rename_i hk <;> rw [hk] at hz <;> simp only [TK.zero, Option.some.injEq, reduceCtorEq] at hz <;> subst hz
  · exact h.2.z
  · exact h.2.z
  · exact h.2.z
  · exact h.2.z
  · exact h.2.z
  · exact h.2.z
  · exact h.1.2.z
  · exact h.2.2.2.1
  · exact h.2.2.1
theorem TI.noI {P : Program} {t : Nat} {i : TI} (h : i.ok P t) (h1 : i.k ≠ .other) (h2 : i.k ≠ .ifc) : TyNI P t := by
  unfold TI.ok at h
  split at h <;> rename_i hk
  · exact absurd hk h1
  · exact ⟨_, h.1.h, rfl⟩
  · exact ⟨_, h.1.h, rfl⟩
  · exact ⟨_, h.1.h, rfl⟩
  · obtain ⟨⟨e, hu⟩, hs⟩ := h; exact ⟨_, hu.h, rfl⟩
  · obtain ⟨⟨p, q, z, hu⟩, hs⟩ := h; exact ⟨_, hu.h, rfl⟩
  · exact absurd hk h2
  · exact ⟨_, h.1.1.h, rfl⟩
  · exact ⟨_, h.1.1.h, rfl⟩
  · obtain ⟨⟨⟨d, h3, h4⟩, _⟩, _⟩ := h
    exact ⟨d, h3, by cases d <;> simp [aggD] at h4 <;> rfl⟩
theorem xLoad_ok {P : Program} {T : TT} (hT : T.ok P) {t : TypeId} {cs : List AV} {off : Nat} {stop : Prop} {K : AV → Prop} (h : xLoad T t cs off stop K) : stop ∨ ∃ r, aLoadBox P t cs off = some r ∧ K r := by
  have ht := TT.ok_look hT t
  have hs := TI.scal ht
  unfold xLoad at h
  split at h
  · exact .inl h
  · rename_i fs z hk
    split at h
    · rename_i hc
      rw [TI.ok, hk] at ht
      have h1 := ht.1.1
      have h2 := ht.1.2
      exact .inr ⟨_, aLoadA rfl hc.1 hc.2, h⟩
    · exact .inl h
  · rename_i n e sz agg z hk
    split at h
    · rename_i hc
      rw [TI.ok, hk] at ht
      have h1 : TyA P t true := ⟨_, ht.1.1.h, rfl⟩
      have h2 := ht.1.2
      exact .inr ⟨_, aLoadA rfl hc.1 hc.2, h⟩
    · exact .inl h
  · rename_i n1 n2 n3
    split at h
    · rename_i r hr
      rcases hs with hs | ⟨fs, z, hs⟩ | ⟨n, e, sz, agg, z, hs⟩ | ⟨hu, hs⟩
      · exact absurd hs (by simpa using n1)
      · exact absurd hs (by simpa using n2 fs z)
      · exact absurd hs (by simpa using n3 n e sz agg z)
      · have h1 : TyA P t false := ⟨hu⟩
        exact .inr ⟨_, aLoad1 (by rw [← nth_eq]; exact hr), h⟩
    · exact .inl h
end Go.Al
end
section
set_option linter.unusedVariables false
set_option linter.unusedSimpArgs false
namespace Go.Al
open Go.RowKit

def xField (T : TT) (t : TypeId) (f : Nat) (stop : Prop) (K : AV → Prop) (v : AV) : Prop :=
  match (T.look t).k with
  | .struct fs _ => match nth fs f with
    | some (off, _, false) => match v with
      | .agg cs => match nth cs off with
        | some c => K c
        | none => stop
      | _ => stop
    | some (off, sz, true) => match v with
      | .agg cs => K (.agg ((cs.drop off).take sz))
      | _ => stop
    | none => stop
  | _ => stop
theorem xField_ok {P : Program} {T : TT} (hT : T.ok P) {E : AEnv} {x : Operand} {t : TypeId} {f : Nat} {v : AV} {stop : Prop} {K : AV → Prop} (hx : aeval E x = v) (h : xField T t f stop K v) : stop ∨ ∃ r, Yields P E (.field t x f) r ∧ K r := by
  have ht := TT.ok_look hT t
  unfold xField at h
  split at h
  · rename_i fs z hk
    rw [TI.ok, hk] at ht
    obtain ⟨_, hF, _⟩ := ht
    split at h
    · rename_i off sz hn
      obtain ⟨ft, hf⟩ := okF_get hF hn
      rw [Nat.zero_add] at hf
      split at h
      · split at h
        · rename_i c hc
          exact .inr ⟨_, a_field1 hx (by rw [← nth_eq]; exact hc), h⟩
        · exact .inl h
      · exact .inl h
    · rename_i off sz hn
      obtain ⟨ft, hf⟩ := okF_get hF hn
      rw [Nat.zero_add] at hf
      split at h
      · exact .inr ⟨_, a_fieldA hx, h⟩
      · exact .inl h
    · exact .inl h
  · exact .inl h
def xFieldAddr (T : TT) (t : TypeId) (f : Nat) (stop : Prop) (K : AV → Prop) (v : AV) : Prop :=
  match (T.look t).k with
  | .struct fs _ => match nth fs f with
    | some (off, sz, ag) => if sz = 0 then stop else match v with
      | .ptr b o => K (.ptr b (o + off))
      | .vp (.agg cs) => match ag with
        | false => match nth cs off with
          | some c => K (.vp c)
          | none => stop
        | true => K (.vp (.agg ((cs.drop off).take sz)))
      | _ => stop
    | none => stop
  | _ => stop
theorem xFieldAddr_ok {P : Program} {T : TT} (hT : T.ok P) {E : AEnv} {x : Operand} {t : TypeId} {f : Nat} {v : AV} {stop : Prop} {K : AV → Prop} (hx : aeval E x = v) (h : xFieldAddr T t f stop K v) : stop ∨ ∃ r, Yields P E (.fieldAddr t x f) r ∧ K r := by
  have ht := TT.ok_look hT t
  unfold xFieldAddr at h
  split at h
  · rename_i fs z hk
    rw [TI.ok, hk] at ht
    obtain ⟨_, hF, _⟩ := ht
    split at h
    · rename_i off sz ag hn
      obtain ⟨ft, hf⟩ := okF_get hF hn
      rw [Nat.zero_add] at hf
      split at h
      · exact .inl h
      · rename_i hsz
        split at h
        · exact .inr ⟨_, a_fieldAddrP hx hsz, h⟩
        · split at h
          · split at h
            · rename_i c hc
              exact .inr ⟨_, a_fieldAddr1 hx hsz (by rw [← nth_eq]; exact hc), h⟩
            · exact .inl h
          · exact .inr ⟨_, a_fieldAddrA hx hsz, h⟩
        · exact .inl h
    · exact .inl h
  · exact .inl h
def xParts (L : SL) : List (Nat × Operand) → (List (Nat × AV) → Prop) → Prop
  | [], k => k []
  | (i, x) :: l, k => xV L x fun v => xParts L l fun vs => k ((i, v) :: vs)
def prts (L : SL) : List (Nat × Operand) → List (Nat × AV)
  | [] => []
  | (i, x) :: l => (i, ev L x) :: prts L l
theorem xParts_eq (L : SL) : ∀ (l : List (Nat × Operand)) (k : List (Nat × AV) → Prop), xParts L l k = k (prts L l)
  | [], k => rfl
  | (i, x) :: l, k => by rw [xParts, xV_eq, xParts_eq L l]; rfl
theorem prts_ev (L : SL) : ∀ l, EvP (env L) l (prts L l)
  | [] => .nil
  | (i, x) :: l => .cons (ev_eq L x).symm (prts_ev L l)
def xBuild (T : TT) (t : TypeId) (ps : List (Nat × AV)) (stop : Prop) (K : AV → Prop) : Prop :=
  match (T.look t).k with
  | .struct fs z => match aFill (fun i => nth (fs.map fun p => (p.1, p.2.1)) i) z ps with
    | some cs => K (.agg cs)
    | none => stop
  | .arr n _ sz _ z => match aFill (fun i => nth ((List.range n).map fun j => (j * sz, sz)) i) z ps with
    | some cs => K (.agg cs)
    | none => stop
  | _ => stop
theorem xBuild_ok {P : Program} {T : TT} (hT : T.ok P) {E : AEnv} {t : TypeId} {parts : Array (Nat × Operand)} {ps : List (Nat × AV)} {stop : Prop} {K : AV → Prop} (hp : EvP E parts.toList ps) (h : xBuild T t ps stop K) : stop ∨ ∃ r, Yields P E (.build t parts) r ∧ K r := by
  have ht := TT.ok_look hT t
  unfold xBuild at h
  split at h
  · rename_i fs z hk
    rw [TI.ok, hk] at ht
    obtain ⟨_, _, _, hb⟩ := ht
    split at h
    · rename_i cs hc
      simp only [nth_eq] at hc
      exact .inr ⟨_, a_build hp hc, h⟩
    · exact .inl h
  · rename_i n e sz ag z hk
    rw [TI.ok, hk] at ht
    obtain ⟨_, _, _, _, hb⟩ := ht
    split at h
    · rename_i cs hc
      simp only [nth_eq] at hc
      exact .inr ⟨_, a_build hp hc, h⟩
    · exact .inl h
  · exact .inl h
def xBuildSlice (T : TT) (t n : Nat) (ps : List (Nat × AV)) (stop : Prop) (K : AV → Prop) : Prop :=
  match (T.look t).k with
  | .slc _ sz _ => match aParts ps 0 with
    | some xs => if ps.length = n ∧ xs.all (fun x => x.flat && (x.cells.length == sz)) = true ∧ n * sz ≤ 4096 then fL (fun x k => k x) xs fun ys => K (.slc sz ys .full) else stop
    | none => stop
  | _ => stop
theorem xBuildSlice_ok {P : Program} {T : TT} (hT : T.ok P) {E : AEnv} {t n : Nat} {parts : Array (Nat × Operand)} {ps : List (Nat × AV)} {stop : Prop} {K : AV → Prop} (hp : EvP E parts.toList ps) (h : xBuildSlice T t n ps stop K) : stop ∨ ∃ r, Yields P E (.buildSlice t n parts) r ∧ K r := by
  have ht := TT.ok_look hT t
  unfold xBuildSlice at h
  split at h
  · rename_i e sz u8 hk
    rw [TI.ok, hk] at ht
    obtain ⟨_, _, _, hb⟩ := ht
    split at h
    · rename_i xs hx
      split at h
      · rename_i hc
        rw [fL_eq (fun _ _ => rfl)] at h
        exact .inr ⟨_, a_buildN hp hx hc.1 hc.2.1 hc.2.2, h⟩
      · exact .inl h
    · exact .inl h
  · exact .inl h
def xLen (T : TT) (t : TypeId) (stop : Prop) (K : AV → Prop) (v : AV) : Prop :=
  match (T.look t).k, v with
  | .str, .str l => K (.int .i64 l.length)
  | .slc .., .slc _ xs _ => K (.int .i64 xs.length)
  | .slc .., .nils => K (.int .i64 0)
  | .slc .., .msl _ _ n _ => K (.int .i64 n)
  | _, _ => stop
theorem xLen_ok {P : Program} {T : TT} (hT : T.ok P) {E : AEnv} {x : Operand} {t : TypeId} {v : AV} {stop : Prop} {K : AV → Prop} (hx : aeval E x = v) (h : xLen T t stop K v) : stop ∨ ∃ r, Yields P E (.call ⟨.builtin .len, #[x], #[t]⟩) r ∧ K r := by
  have ht := TT.ok_look hT t
  unfold xLen at h
  split at h
  · rename_i hk; rw [TI.ok, hk] at ht; have := ht.1; exact .inr ⟨_, a_len_str hx, h⟩
  · rename_i hk; rw [TI.ok, hk] at ht; have := ht.1.1; exact .inr ⟨_, a_len_slc hx, h⟩
  · rename_i hk; rw [TI.ok, hk] at ht; have := ht.1.1; exact .inr ⟨_, a_len_nils hx, h⟩
  · rename_i hk; rw [TI.ok, hk] at ht; have := ht.1.1; exact .inr ⟨_, a_lenM hx, h⟩
  · exact .inl h
def xBuiltin (T : TT) (b : Builtin) (args : List Operand) (ts : List TypeId) (L : SL) (stop : Prop) (K : AV → Prop) : Prop :=
  match b, args with
  | .len, [x] => match ts with
    | [t] => xLen T t stop K (ev L x)
    | _ => stop
  | .min, [x, y] => match ev L x, ev L y with
    | .int .i64 a, .int .i64 b => K (.int .i64 (min a b))
    | _, _ => stop
  | .max, [x, y] => match ev L x, ev L y with
    | .int .i64 a, .int .i64 b => K (.int .i64 (max a b))
    | _, _ => stop
  | _, _ => stop
theorem xBuiltin_ok {P : Program} {T : TT} (hT : T.ok P) {L : SL} {b : Builtin} {args : Array Operand} {ts : Array TypeId} {stop : Prop} {K : AV → Prop} (h : xBuiltin T b args.toList ts.toList L stop K) : stop ∨ ∃ r, Yields P (env L) (.call ⟨.builtin b, args, ts⟩) r ∧ K r := by
  obtain ⟨args⟩ := args
  obtain ⟨ts⟩ := ts
  unfold xBuiltin at h
  split at h
  · rename_i x hx
    split at h
    · rename_i t ht
      simp only at hx ht
      subst hx; subst ht
      exact xLen_ok hT (ev_eq L x).symm h
    · exact .inl h
  · rename_i x y hx
    simp only at hx
    subst hx
    split at h
    · rename_i a b ha hb
      rw [ev_eq] at ha hb
      exact .inr ⟨_, a_min ha hb, h⟩
    · exact .inl h
  · rename_i x y hx
    simp only at hx
    subst hx
    split at h
    · rename_i a b ha hb
      rw [ev_eq] at ha hb
      exact .inr ⟨_, a_max ha hb, h⟩
    · exact .inl h
  · exact .inl h
def xConv (T : TT) (s d : TypeId) (stop : Prop) (K : AV → Prop) (v : AV) : Prop :=
  match (T.look s).k, (T.look d).k, v with
  | .slc _ _ true, .str, .slc 1 xs _ => ∃ l, toBytes xs = some l ∧ K (.str l)
  | .slc _ _ true, .str, .nils => K (.str [])
  | .str, .slc _ _ true, .str l => l.length ≤ 140737488355328 ∧ K (.slc 1 (aBytes l) .no)
  | .int k, .int k', .int k1 n => if k1 = k then ∃ m, k'.wrap n = m ∧ K (.int k' m) else stop
  | _, _, _ => stop
theorem xConv_ok {P : Program} {T : TT} (hT : T.ok P) {E : AEnv} {x : Operand} {s d : TypeId} {v : AV} {stop : Prop} {K : AV → Prop} (hx : aeval E x = v) (h : xConv T s d stop K v) : stop ∨ ∃ r, Yields P E (.convert s d x) r ∧ K r := by
  have hs := TT.ok_look hT s
  have hd := TT.ok_look hT d
  unfold xConv at h
  split at h
  · rename_i e sz xs tk hk hk'
    rw [TI.ok, hk] at hs
    rw [TI.ok, hk'] at hd
    have h1 := hs.1.1
    have h2 := hd.1
    have h3 := hs.2.2.1 rfl
    obtain ⟨l, hl, h⟩ := h
    exact .inr ⟨_, a_bytesStrX hx hl, h⟩
  · rename_i e sz hk hk'
    rw [TI.ok, hk] at hs
    rw [TI.ok, hk'] at hd
    have h1 := hs.1.1
    have h2 := hd.1
    have h3 := hs.2.2.1 rfl
    exact .inr ⟨_, a_nilsStr hx, h⟩
  · rename_i e sz l hk hk'
    rw [TI.ok, hk] at hs
    rw [TI.ok, hk'] at hd
    have h1 := hd.1.1
    have h2 := hs.1
    have h3 := hd.2.2.1 rfl
    exact .inr ⟨_, a_strBytes hx h.1, h.2⟩
  · rename_i k k' k1 n hk hk'
    rw [TI.ok, hk] at hs
    rw [TI.ok, hk'] at hd
    have h1 := hs.1
    have h2 := hd.1
    split at h
    · rename_i e
      subst e
      obtain ⟨m, hm, h⟩ := h
      exact .inr ⟨_, a_convI hx, by rw [hm]; exact h⟩
    · exact .inl h
  · exact .inl h
def xBnd (L : SL) (x : Option Operand) (d : Int) (stop : Prop) (K : Int → Prop) : Prop :=
  match x with
  | none => K d
  | some y => match ev L y with
    | .int _ n => K n
    | _ => stop
theorem xBnd_ok {L : SL} {x : Option Operand} {d : Int} {stop : Prop} {K : Int → Prop} (h : xBnd L x d stop K) : stop ∨ ∃ n, bnd (env L) x d = some n ∧ K n := by
  unfold xBnd at h
  split at h
  · exact .inr ⟨_, rfl, h⟩
  · split at h
    · rename_i y k n hn
      rw [ev_eq] at hn
      exact .inr ⟨_, by simp [bnd, hn, aBound], h⟩
    · exact .inl h
def xSlice (T : TT) (t : TypeId) (L : SL) (lo hi : Option Operand) (stop : Prop) (K : AV → Prop) (v : AV) : Prop :=
  match (T.look t).k, v with
  | .str, .str l => xBnd L lo 0 stop fun a => xBnd L hi l.length stop fun b => (0 ≤ a ∧ a ≤ b ∧ b ≤ l.length) ∧ K (.str ((l.take b.toNat).drop a.toNat))
  | .slc _ sz _, .slc sz' xs _ => if sz' = sz then xBnd L lo 0 stop fun a => xBnd L hi xs.length stop fun b => (0 ≤ a ∧ a ≤ b ∧ b ≤ xs.length) ∧ ∃ ys, (xs.take b.toNat).drop a.toNat = ys ∧ K (.slc sz ys .no) else stop
  | _, _ => stop
theorem xSlice_ok {P : Program} {T : TT} (hT : T.ok P) {L : SL} {x : Operand} {lo hi : Option Operand} {t : TypeId} {v : AV} {stop : Prop} {K : AV → Prop} (hx : aeval (env L) x = v) (h : xSlice T t L lo hi stop K v) : stop ∨ ∃ r, Yields P (env L) (.slice t x lo hi none) r ∧ K r := by
  have ht := TT.ok_look hT t
  unfold xSlice at h
  split at h
  · rename_i l hk
    rw [TI.ok, hk] at ht
    have h1 := ht.1
    rcases xBnd_ok h with h | ⟨a, ha, h⟩
    · exact .inl h
    · rcases xBnd_ok h with h | ⟨b, hb, h⟩
      · exact .inl h
      · exact .inr ⟨_, a_sliceS hx ha hb h.1, h.2⟩
  · rename_i e sz u8 sz' xs tk hk
    rw [TI.ok, hk] at ht
    have h1 := ht.1.1
    have h2 := ht.2.1
    split at h
    · rename_i e
      subst e
      rcases xBnd_ok h with h | ⟨a, ha, h⟩
      · exact .inl h
      · rcases xBnd_ok h with h | ⟨b, hb, h⟩
        · exact .inl h
        · obtain ⟨h0, ys, hy, h⟩ := h
          exact .inr ⟨_, a_sliceL hx ha hb h0, by rw [hy]; exact h⟩
    · exact .inl h
  · exact .inl h
def xPure (T : TT) (L : SL) (stop : Prop) (K : AV → Prop) (op : Op) : Prop :=
  match op with
  | .move x => xV L x K
  | .assign x => xV L x K
  | .nilCheck x => match ev L x with
    | .ptr b o => K (.ptr b o)
    | .vp y => K (.vp y)
    | .fn (.func f) a b => K (.fn (.func f) a b)
    | _ => stop
  | .binOp op t x y _ => xV L x fun a => xV L y fun b => xBin T op t (isConstB y) stop K a b
  | .unOp op _ x => match op, ev L x with
    | .not, .bool b => K (.bool (!b))
    | .neg, .int .i64 a => (-9223372036854775807 ≤ a ∧ a ≤ 9223372036854775807) ∧ K (.int .i64 (-a))
    | _, _ => stop
  | .convert s d x => xConv T s d stop K (ev L x)
  | .field t x f => xField T t f stop K (ev L x)
  | .fieldAddr t x f => xFieldAddr T t f stop K (ev L x)
  | .extract x i => match ev L x with
    | .tup vs => match nth vs i with
      | some v => K v
      | none => stop
    | _ => stop
  | .makeInterface t x => match (T.look t).k with
    | .other => stop
    | .ifc => stop
    | _ => xV L x fun v => K (.ifc t v)
  | .makeFunc f first cap => K (.fn f (evs L first.toList) (evs L cap.toList))
  | .build t parts => xParts L parts.toList fun ps => xBuild T t ps stop K
  | .buildSlice t n parts => xParts L parts.toList fun ps => xBuildSlice T t n ps stop K
  | .slice t x lo hi none => xSlice T t L lo hi stop K (ev L x)
  | .call ⟨.builtin b, args, ts⟩ => xBuiltin T b args.toList ts.toList L stop K
  | _ => stop
theorem xPure_ok {P : Program} {T : TT} (hT : T.ok P) {L : SL} {op : Op} {stop : Prop} {K : AV → Prop} (h : xPure T L stop K op) : stop ∨ ∃ r, Yields P (env L) op r ∧ K r := by
  unfold xPure at h
  split at h
  · rw [xV_eq] at h; exact .inr ⟨_, a_move (ev_eq ..).symm, h⟩
  · rw [xV_eq] at h; exact .inr ⟨_, a_assign (ev_eq ..).symm, h⟩
  · rename_i x
    split at h <;> rename_i hx <;> first
      | (rw [ev_eq] at hx; exact .inr ⟨_, a_nilCheck hx rfl, h⟩)
      | exact .inl h
  · rw [xV_eq, xV_eq] at h; exact xBin_ok hT (ev_eq ..).symm (ev_eq ..).symm h
  · rename_i op t x
    split at h
    · rename_i b hx
      rw [ev_eq] at hx
      exact .inr ⟨_, a_not hx, h⟩
    · rename_i a hx
      rw [ev_eq] at hx
      exact .inr ⟨_, a_neg64 hx h.1, h.2⟩
    · exact .inl h
  · exact xConv_ok hT (ev_eq ..).symm h
  · exact xField_ok hT (ev_eq ..).symm h
  · exact xFieldAddr_ok hT (ev_eq ..).symm h
  · rename_i x i
    split at h
    · rename_i vs hx
      rw [ev_eq] at hx
      split at h
      · rename_i v hv
        rw [nth_eq] at hv
        exact .inr ⟨_, a_extract hx hv, h⟩
      · exact .inl h
    · exact .inl h
  · rename_i t x
    have ht := TT.ok_look hT t
    split at h
    · exact .inl h
    · exact .inl h
    · rename_i h1 h2
      have := TI.noI ht h1 h2
      rw [xV_eq] at h
      exact .inr ⟨_, a_mkIface (ev_eq ..).symm, h⟩
  · rename_i f first cap
    exact .inr ⟨_, a_makeFunc (evs_eq ..).symm (evs_eq ..).symm, h⟩
  · rw [xParts_eq] at h
    exact xBuild_ok hT (prts_ev ..) h
  · rw [xParts_eq] at h
    exact xBuildSlice_ok hT (prts_ev ..) h
  · exact xSlice_ok hT (ev_eq ..).symm h
  · exact xBuiltin_ok hT h
  · exact .inl h
end Go.Al
end
section
set_option linter.unusedVariables false
set_option linter.unusedSimpArgs false
namespace Go.Al
open Go.RowKit
structure RoundW (P : Program) (w0 : Base) (l : Nat) (args : List AV) (σ : St) (K : AV → St → Prop) : Prop where
  go : ∀ G w vs, Inv w0 G σ w → RelL G w args vs → ∃ fn tmps assign body, (Instr.yield l vs.toArray).run P w = .ok (.round l fn tmps assign body) w ∧
    ∀ ro, RoundIn (wideAt ro) 0 P l fn tmps assign body w (fun e w' => ∃ v r σ' G', e = .returned v ∧ K r σ' ∧ Inv w0 G' σ' w' ∧ Ext G w G' w' ∧ Rel G' w' r v)
theorem RoundW.mono {P : Program} {w0 : Base} {l : Nat} {args : List AV} {σ : St} {K K' : AV → St → Prop} (h : RoundW P w0 l args σ K) (hk : ∀ r s, K r s → K' r s) : RoundW P w0 l args σ K' :=
  ⟨fun G w vs hI hr => by
    obtain ⟨fn, tmps, assign, body, hy, hR⟩ := h.go G w vs hI hr
    exact ⟨fn, tmps, assign, body, hy, fun ro => (hR ro).mono fun e w' ⟨v, r, σ', G', h1, h2, h3⟩ => ⟨v, r, σ', G', h1, hk _ _ h2, h3⟩⟩⟩
theorem op_yield {P : Program} {w0 : Base} {E : AEnv} {σ : St} {o : Oper} {x : Operand} {args : Array Operand} {ts : Array TypeId} (ho : o.op = .call { callee := .value x, args, argTypes := ts }) {l : Nat} (hx : aeval E x = .fn (.yield l) [] []) {K : AV → St → Prop}
    (h : RoundW P w0 l (args.toList.map (aeval E)) σ K) : OpW P w0 o E σ K := ⟨fun G w a hI hE next Qx hn ro => by
  have hxr := hE.get x (by simp [ho, Op.operands, Call.operands])
  rw [hx] at hxr
  have har := evals_rel args.toList fun y hy => hE.get y (by simp [ho, Op.operands, Call.operands]; exact .inr (by simpa using hy))
  generalize hv : a.eval x = v at hxr
  cases hxr with
  | fn h1 h2 =>
    cases h1
    cases h2
    obtain ⟨fn, tmps, assign, body, hy, hR⟩ := h.go G w _ hI har
    have e : (args.toList.map a.eval).toArray = args.map a.eval := by apply Array.ext'; simp
    rw [e] at hy
    have hrun : (execOp a.eval o).run P w = .ok (.round l fn tmps assign body) w := by
      simp only [execOp, ho, resolve, hv, Deferred.ofValue, Sem.run_bind, Sem.run_pure, Result.andThen_ok, invoke]
      simpa using hy
    refine ⟨fun _ _ => trivial, ?_⟩
    rw [sem_at hrun (by intro d e; cases e) ro]
    refine ⟨fun e => by simp [wideAt, Fence.wide] at e, (hR ro).mono ?_⟩
    rintro e w' ⟨v, r, σ', G', rfl, hk, hI', ex, hrel⟩
    exact hn v w' G' r σ' hk hI' ex hrel⟩
def updL (E : AEnv) : List Tmp → List AV → AEnv
  | t :: ts, x :: xs => updL (upd E (some t) x) ts xs
  | _, _ => E
def recAt (r : Loop) (st : LoopState) (pe : Option Code) : Loop := { r with state := st, pending := pe }
theorem recAt_self {r : Loop} (hs : r.state = .ready) (hp : r.pending = none) : recAt r .ready none = r := by
  cases r; simp at hs hp; simp [recAt, hs, hp]
def roundQ (l : Nat) (rec : Loop) (E0 : AEnv) (K : AV → St → Prop) : Exit → AEnv → St → Prop
  | .normal, _, s => s.obj l = some (.loop (recAt rec .busy none) E0) ∧ K (.bool true) (s.setObj l (some (.loop rec E0)))
  | .ret, _, s => s.obj l = some (.loop (recAt rec .busy none) E0) ∧ K (.bool false) (s.setObj l (some (.loop (recAt rec .done (some .ret)) E0)))
  | .exit j, _, s => s.obj l = some (.loop (recAt rec .busy none) E0) ∧ K (.bool false) (s.setObj l (some (.loop (recAt rec .done (some (.exit j))) E0)))
  | _, _, _ => False
theorem params_rel {G : Gh} {w : World} : ∀ (ps : List Tmp) (xs : List AV) (vs : List Value) (E : AEnv) (a : Act), RelL G w xs vs → ps.length = xs.length → (∀ t ∈ ps, t < a.tmps.size) → RelE G w E a →
    RelE G w (updL E ps xs) { a with tmps := (ps.zip vs).foldl (fun tm (p : Tmp × Value) => tm.setIfInBounds p.1 p.2) a.tmps } ∧ ((ps.zip vs).foldl (fun tm (p : Tmp × Value) => tm.setIfInBounds p.1 p.2) a.tmps).size = a.tmps.size
  | [], xs, vs, E, a, _, _, _, hE => by
    cases xs <;> exact ⟨hE, rfl⟩
  | t :: ps, [], vs, E, a, _, hl, _, _ => by simp at hl
  | t :: ps, x :: xs, _, E, a, .cons h1 h2, hl, ht, hE => by
    have hp := put_rel (a := a) (d := some t) hE h1 (fun s hs => by cases hs; exact ht _ (by simp))
    have := params_rel ps xs _ (upd E (some t) x) { a with tmps := a.tmps.setIfInBounds t _ } h2 (by simpa using hl) (fun s hs => by simpa using ht s (by simp [hs])) hp
    refine ⟨this.1, this.2.trans (by simp)⟩
theorem Fr.round {l lo : Nat} {w : World} {r : Loop} (h : w.heap[l]? = some (.loop r)) (hlo : lo ≤ w.heap.size) : Fr ⟨some l, lo⟩ w [] := ⟨⟨[], rfl, .nil, by simp⟩, fun k e => by cases e; exact ⟨r, h⟩, hlo⟩
theorem loop_here {w0 : Base} {G : Gh} {σ : St} {w : World} {l : Nat} {r : Loop} {E : AEnv} (hI : Inv w0 G σ w) (h : σ.obj l = some (.loop r E)) : G.base ≤ l ∧ w.heap[l]? = some (.loop r) ∧ ∀ t, Rel G w (E t) (r.tmps.getD t undef) := by
  cases hI.obj l _ h with
  | loop hb here rel => exact ⟨hb, here, rel⟩
theorem Inv.putRec {w0 : Base} {G : Gh} {σ : St} {w : World} {l : Nat} {r r' : Loop} {E : AEnv} (hI : Inv w0 G σ w) (h : σ.obj l = some (.loop r E)) (ht : r'.tmps = r.tmps) : Inv w0 G (σ.setObj l (some (.loop r' E))) (w.putObj l (.loop r')) ∧ Ext G w G (w.putObj l (.loop r')) := by
  obtain ⟨hb, here, rel⟩ := loop_here hI h
  have ex : Ext G w G (w.putObj l (.loop r')) := putObj_ext here rfl rfl (by simp) (fun _ _ => ⟨_, rfl⟩)
  refine ⟨hI.putOb (σ' := σ.setObj l (some (.loop r' E))) hb here rfl rfl rfl rfl fun i q hi => ?_, ex⟩
  by_cases e : i = l
  · subst e
    have h' : some (Ob.loop r' E) = some q := by simpa [St.setObj] using hi
    cases h'
    exact .inr (.loop hb (World.putObj_heap_same (lt_of_get here)) fun t => by rw [ht]; exact (rel t).ext ex)
  · exact .inl ⟨e, by simpa [St.setObj, e] using hi⟩
theorem RoundW.mk' {P : Program} {w0 : Base} {l n : Nat} {xs : List AV} {σ : St} {K : AV → St → Prop} {rec : Loop} {E0 : AEnv} (hl : σ.obj l = some (.loop rec E0)) (hs : rec.state = .ready) (hp : rec.pending = none) (hn : rec.tmps.size = n) (hlen : rec.params.size = xs.length) (ht : ∀ t ∈ rec.params.toList, t < n)
    (h : W P w0 n rec.assign (fun e E1 σ1 => e = .normal ∧ σ1.obj l = some (.loop rec E0) ∧ W P w0 n rec.body (roundQ l rec E0 K) E1 (σ1.setObj l (some (.loop (recAt rec .busy none) E0)))) (updL E0 rec.params.toList xs) σ) : RoundW P w0 l xs σ K := ⟨fun G w vs hI hr => by
  obtain ⟨hb, here, rel⟩ := loop_here hI hl
  have hvl := hr.length
  have hy := run_yield (P := P) (args := vs.toArray) here (by simp [hlen, hvl])
  have ez : ((rec.params.zip vs.toArray).foldl (fun tmps (p : Tmp × Value) => tmps.setIfInBounds p.1 p.2) rec.tmps) = ((rec.params.toList.zip vs).foldl (fun tm (p : Tmp × Value) => tm.setIfInBounds p.1 p.2) rec.tmps) := by
    rw [← Array.foldl_toList, Array.toList_zip]
  obtain ⟨hE, hsz⟩ := params_rel rec.params.toList xs vs E0 { tmps := rec.tmps, defers := [] } hr (by simpa using hlen) (by rw [hn]; exact ht) ⟨rel⟩
  refine ⟨_, _, _, _, hy, fun ro => roundIn_of_wpIn trivial ?_⟩
  have ez' : ((rec.params.zip vs.toArray).foldl (fun tmps (t, a) => tmps.setIfInBounds t a) rec.tmps) = ((rec.params.toList.zip vs).foldl (fun tm (p : Tmp × Value) => tm.setIfInBounds p.1 p.2) rec.tmps) := ez
  rw [ez']
  refine wpIn_mono (h.go G w { tmps := (rec.params.toList.zip vs).foldl (fun tm (p : Tmp × Value) => tm.setIfInBounds p.1 p.2) rec.tmps, defers := [] } hI hE (hsz.trans hn) ⟨some l, w.heap.size⟩ (.round here (Nat.le_refl _))) ?_
  rintro e a1 w1 ⟨E1, σ1, G1, ⟨rfl, hl1, hW⟩, hI1, hE1, hn1, hd1, ex1⟩
  obtain ⟨hb1, here1, rel1⟩ := loop_here hI1 hl1
  obtain ⟨hI2, ex2⟩ := hI1.putRec (r' := recAt rec .busy none) hl1 rfl
  have hbr := run_beginRound (P := P) here1 hs
  have er : ({ rec with state := .busy } : Loop) = recAt rec .busy none := by cases rec; simp at hp; simp [recAt, hp]
  rw [er] at hbr
  refine ⟨_, hbr, wpIn_mono (hW.go G1 _ a1 hI2 (hE1.ext ex2) hn1 ⟨some l, w.heap.size⟩ (hd1.ext ex2)) ?_⟩
  rintro e a2 w2 ⟨E2, σ2, G2, hq, hI3, hE3, hn3, hd3, ex3⟩
  have fin : ∀ (st : LoopState) (jump : Option Code) (r : AV), σ2.obj l = some (.loop (recAt rec .busy none) E0) → (if jump.isNone then LoopState.ready else .done) = st → r = .bool jump.isNone → K r (σ2.setObj l (some (.loop (recAt rec st jump) E0))) →
      ∃ v w', (Instr.endRound l jump).run P w2 = .ok v w' ∧ ∃ v' r σ' G', Ending.returned v = .returned v' ∧ K r σ' ∧ Inv w0 G' σ' w' ∧ Ext G w G' w' ∧ Rel G' w' r v' := by
    intro st jump r hl2 hst hr2 hK
    subst hst; subst hr2
    obtain ⟨hb2, here2, rel2⟩ := loop_here hI3 hl2
    obtain ⟨hI4, ex4⟩ := hI3.putRec (r' := recAt rec (if jump.isNone then LoopState.ready else .done) jump) hl2 rfl
    exact ⟨_, _, run_endRound (P := P) jump here2, _, _, _, _, rfl, hK, hI4, ex1.trans (ex2.trans (ex3.trans ex4)), .bool _⟩
  cases e with
  | normal =>
    have := fin .ready none (.bool true) hq.1 rfl rfl (by rw [recAt_self hs hp]; exact hq.2)
    exact this
  | ret => exact fin .done (some .ret) (.bool false) hq.1 rfl rfl hq.2
  | exit j => exact fin .done (some (.exit j)) (.bool false) hq.1 rfl rfl hq.2
  | goto t => exact hq.elim
  | panic c => exact hq.elim
  | outgrown => exact hq.elim⟩
structure Kp (F FO : List Nat) (σ s : St) : Prop where
  box : ∀ i cs, i ∉ F → σ.box i = some cs → s.box i = some cs
  obj : ∀ i o, i ∉ FO → σ.obj i = some o → s.obj i = some o
theorem Kp.refl (F FO : List Nat) (σ : St) : Kp F FO σ σ := ⟨fun _ _ _ h => h, fun _ _ _ h => h⟩
theorem Kp.trans {F FO : List Nat} {a b c : St} (h : Kp F FO a b) (k : Kp F FO b c) : Kp F FO a c := ⟨fun i cs hi e => k.box i cs hi (h.box i cs hi e), fun i o hi e => k.obj i o hi (h.obj i o hi e)⟩
theorem Kp.le {F FO : List Nat} {a b : St} (h : St.Le a b) : Kp F FO a b := ⟨fun i cs _ e => h.box i cs e, fun i o _ e => h.obj i o e⟩
structure Free (σ : St) (I : St → Prop) : Prop where
  up : ∀ s s', I s → St.Le s s' → I s'
  box : ∀ s b cs, σ.box b = none → I s → I (s.setBox b cs)
  obj : ∀ s l q, σ.obj l = none → I s → I (s.setObj l q)
theorem le_setObj {σ s : St} {l : Nat} {q : Option Ob} (h : St.Le σ s) (hl : σ.obj l = none) : St.Le σ (s.setObj l q) := ⟨h.box, h.tok, fun i o e => by
  have hne : i ≠ l := by rintro rfl; rw [hl] at e; cases e
  simp only [St.setObj, if_neg hne]; exact h.obj i o e⟩
theorem Free.and {σ : St} {I J : St → Prop} (h : Free σ I) (k : Free σ J) : Free σ (fun s => I s ∧ J s) := ⟨fun s s' ⟨a, b⟩ hl => ⟨h.up s s' a hl, k.up s s' b hl⟩, fun s b cs hb ⟨x, y⟩ => ⟨h.box s b cs hb x, k.box s b cs hb y⟩, fun s l q hl ⟨x, y⟩ => ⟨h.obj s l q hl x, k.obj s l q hl y⟩⟩
theorem Free.or {σ : St} {I J : St → Prop} (h : Free σ I) (k : Free σ J) : Free σ (fun s => I s ∨ J s) := ⟨fun s s' a hl => a.imp (fun a => h.up s s' a hl) (fun b => k.up s s' b hl), fun s b cs hb a => a.imp (fun x => h.box s b cs hb x) (fun y => k.box s b cs hb y), fun s l q hl a => a.imp (fun x => h.obj s l q hl x) (fun y => k.obj s l q hl y)⟩
theorem Free.ex {σ : St} {α : Sort _} {I : α → St → Prop} (h : ∀ a, Free σ (I a)) : Free σ (fun s => ∃ a, I a s) := ⟨fun s s' ⟨a, x⟩ hl => ⟨a, (h a).up s s' x hl⟩, fun s b cs hb ⟨a, x⟩ => ⟨a, (h a).box s b cs hb x⟩, fun s l q hl ⟨a, x⟩ => ⟨a, (h a).obj s l q hl x⟩⟩
theorem Free.pure {σ : St} (q : Prop) : Free σ (fun _ => q) := ⟨fun _ _ h _ => h, fun _ _ _ _ h => h, fun _ _ _ _ h => h⟩
theorem Free.has {σ : St} {b : Nat} (hb : σ.box b ≠ none) (cs : List AV) : Free σ (fun s => s.box b = some cs) := ⟨fun _ _ h hl => hl.box _ _ h, fun s c ds hc h => by rw [setBox_ne (by rintro rfl; exact hb hc)]; exact h, fun _ _ _ _ h => h⟩
theorem Free.hasObj {σ : St} {b : Nat} (hb : σ.obj b ≠ none) (o : Ob) : Free σ (fun s => s.obj b = some o) := ⟨fun _ _ h hl => hl.obj _ _ h, fun _ _ _ _ h => h, fun s l q hl h => by
  have hne : b ≠ l := by rintro rfl; exact hb hl
  simp only [St.setObj, if_neg hne]; exact h⟩
theorem le_none' {τ σ : St} {b : Nat} (h : St.Le τ σ) (hb : σ.box b = none) : τ.box b = none := by
  cases e : τ.box b with
  | none => rfl
  | some cs => rw [h.box b cs e] at hb; cases hb
theorem le_none_obj {τ σ : St} {b : Nat} (h : St.Le τ σ) (hb : σ.obj b = none) : τ.obj b = none := by
  cases e : τ.obj b with
  | none => rfl
  | some cs => rw [h.obj b cs e] at hb; cases hb
theorem Free.le {σ τ : St} (h : St.Le τ σ) : Free σ (fun s => St.Le τ s) := ⟨fun _ _ h hl => h.trans hl, fun s b cs hb k => le_setBox k (le_none' h hb), fun s l q hl k => le_setObj k (le_none_obj h hl)⟩
theorem Free.room {σ : St} (tk : Tok) : Free σ (fun s => Room s tk) := ⟨fun _ _ h hl => h.imp id fun ⟨q, e, hq⟩ => ⟨q, e, hl.tok _ hq⟩, fun _ _ _ _ h => h, fun _ _ _ _ h => h⟩
structure MovesU (σ : St) (tk : Tok) (s : St) (tk' : Tok) : Prop where
  box : ∀ i cs, σ.box i = some cs → s.box i = some cs
  keep : ∀ p, σ.tok p = true → tk ≠ .own p → s.tok p = true ∧ tk' ≠ .own p
  room : Room s tk'
  obj : ∀ i o, σ.obj i = some o → s.obj i = some o
theorem Moves.u {σ s : St} {tk tk' : Tok} (h : Moves σ tk s tk') : MovesU σ tk s tk' := ⟨h.box, h.keep, h.room, fun i o e => by rw [h.obj]; exact e⟩
theorem MovesU.trans {a b c : St} {t u v : Tok} (h : MovesU a t b u) (k : MovesU b u c v) : MovesU a t c v := ⟨fun i cs e => k.box i cs (h.box i cs e), fun p hp hn => by obtain ⟨h1, h2⟩ := h.keep p hp hn; exact k.keep p h1 h2, k.room, fun i o e => k.obj i o (h.obj i o e)⟩
structure IterW (P : Program) (w0 : Base) (f : FuncId) (first cap : List AV) (xss : List (List AV)) : Prop where
  go : ∀ (l : Nat) (F FO : List Nat) (I : Nat → St → Prop) (D : St → Prop) (σ : St), (∀ k, Free σ (I k)) → Free σ D → (∀ k s, I k s → (∀ i ∈ F, s.box i ≠ none) ∧ ∀ i ∈ FO, s.obj i ≠ none) → (∀ s, D s → (∀ i ∈ F, s.box i ≠ none) ∧ ∀ i ∈ FO, s.obj i ≠ none) →
    (∀ k xs s, xss[k]? = some xs → I k s → RoundW P w0 l xs s (fun r s' => Kp F FO s s' ∧ (r = .bool true ∧ I (k + 1) s' ∨ r = .bool false ∧ D s'))) → I 0 σ →
    CallW P w0 f (first ++ [.fn (.yield l) [] []] ++ cap) σ (fun r s => r = .tup [] ∧ Kp F FO σ s ∧ (I xss.length s ∨ D s))
structure IterO (P : Program) (w0 : Base) (f : FuncId) (first cap : List AV) (xss : List (List AV)) (own : List (Nat × List AV)) : Prop where
  go : ∀ (l : Nat) (F FO : List Nat) (I : Nat → St → Prop) (D : St → Prop) (σ : St), (∀ k, Free σ (I k)) → Free σ D → (∀ k s, I k s → (∀ i ∈ F, s.box i ≠ none) ∧ ∀ i ∈ FO, s.obj i ≠ none) → (∀ s, D s → (∀ i ∈ F, s.box i ≠ none) ∧ ∀ i ∈ FO, s.obj i ≠ none) →
    (∀ p ∈ own, σ.box p.1 = some p.2 ∧ p.1 ∉ F) → (∀ k s p cs, p ∈ own → I k s → I k (s.setBox p.1 cs)) → (∀ s p cs, p ∈ own → D s → D (s.setBox p.1 cs)) →
    (∀ k xs s, xss[k]? = some xs → I k s → RoundW P w0 l xs s (fun r s' => Kp F FO s s' ∧ (r = .bool true ∧ I (k + 1) s' ∨ r = .bool false ∧ D s'))) → I 0 σ →
    CallW P w0 f (first ++ [.fn (.yield l) [] []] ++ cap) σ (fun r s => r = .tup [] ∧ (I xss.length s ∨ D s))
theorem IterW.o {P : Program} {w0 : Base} {f : FuncId} {first cap : List AV} {xss : List (List AV)} (h : IterW P w0 f first cap xss) : IterO P w0 f first cap xss [] :=
  ⟨fun l F FO I D σ h1 h2 h3 h4 _ _ _ h5 h6 => (h.go l F FO I D σ h1 h2 h3 h4 h5 h6).mono fun r s ⟨a, _, c⟩ => ⟨a, c⟩⟩
end Go.Al
end
section
set_option linter.unusedVariables false
set_option linter.unusedSimpArgs false
namespace Go.Al
open Go.RowKit
def keyEqA : AV → AV → Option Bool
  | .int k a, .int k' b => if k = k' then some (decide (a = b)) else none
  | .str a, .str b => some (decide (a = b))
  | _, _ => none
def mfind (x : AV) : List (AV × AV) → Nat → Option (Option (Nat × AV))
  | [], _ => some none
  | (k, v) :: l, i => match keyEqA x k with
    | some true => some (some (i, v))
    | some false => mfind x l (i + 1)
    | none => none
def mput (x y : AV) (es : List (AV × AV)) : Option (List (AV × AV)) :=
  match mfind x es 0 with
  | some (some (i, _)) => some (es.set i (x, y))
  | some none => some (es ++ [(x, y)])
  | none => none
def lookR (ok : Bool) : Option (Nat × AV) → AV
  | some (_, y) => if ok = true then .tup [y, .bool true] else y
  | none => if ok = true then .tup [.und, .bool false] else .und
def keyD : TypeDesc → AV → Bool
  | .int _, .int _ _ => true
  | .string, .str _ => true
  | _, _ => false
class TyM (P : Program) (t : TypeId) (key elem : outParam TypeId) (kd : outParam TypeDesc) : Prop where
  h1 : P.underlying t = some (.map key elem)
  h2 : P.underlying key = some kd
  h3 : ∃ i z, P.info? elem = some i ∧ i.zero = some z
theorem bytes_eq {a b : List UInt8} : ((⟨a.toArray⟩ : ByteArray) == ⟨b.toArray⟩) = decide (a = b) := by
  show (a.toArray == b.toArray) = decide (a = b)
  by_cases h : a = b
  · subst h; simp
  · have : ¬ a.toArray = b.toArray := fun e => h (by simpa using e)
    rw [decide_eq_false h]
    exact beq_eq_false_iff_ne.2 this
theorem same_rel {G : Gh} {w : World} {x y : AV} {v u : Value} {kd : TypeDesc} {b : Bool} (hx : Rel G w x v) (hy : Rel G w y u) (hk : keyD kd x = true) (h : keyEqA x y = some b) : Instr.sameNow kd v u = some b := by
  cases x <;> simp only [keyEqA, reduceCtorEq] at h
  all_goals cases y <;> simp only [reduceCtorEq] at h
  · rename_i k a k' c
    cases hx; cases hy
    cases kd <;> simp [keyD] at hk
    split at h
    · rename_i e; subst e
      simp only [Option.some.injEq] at h
      subst h
      simp [Instr.sameNow]
      by_cases e : a = c <;> simp [e]
    · cases h
  · rename_i s t
    cases hx; cases hy
    cases kd <;> simp [keyD] at hk
    simp only [Option.some.injEq] at h
    subst h
    simp only [Instr.sameNow, bytes_eq]
theorem find_rel {G : Gh} {w : World} {x : AV} {v : Value} {kd : TypeDesc} (hx : Rel G w x v) (hk : keyD kd x = true) : ∀ (es : List (AV × AV)) (en : List MapEntry) (i : Nat) (r : Option (Nat × AV)), RelL G w (es.map (·.1)) (en.map (·.key)) → RelL G w (es.map (·.2)) (en.map (·.val)) → mfind x es i = some r →
    ∃ r', Instr.findNow kd v en i = some r' ∧ (r = none ∧ r' = none ∨ ∃ j y u, r = some (j, y) ∧ r' = some (j, u) ∧ Rel G w y u ∧ i ≤ j ∧ (en.map (·.val))[j - i]? = some u ∧ ∃ kk uk, (es.map (·.1))[j - i]? = some kk ∧ (en.map (·.key))[j - i]? = some uk ∧ keyEqA x kk = some true)
  | [], [], i, r, _, _, h => by
    simp only [mfind, Option.some.injEq] at h
    subst h
    exact ⟨none, rfl, .inl ⟨rfl, rfl⟩⟩
  | [], e :: en, i, r, h1, _, h => by simp only [List.map_nil, List.map_cons] at h1; cases h1
  | q :: es, [], i, r, h1, _, h => by simp only [List.map_nil, List.map_cons] at h1; cases h1
  | (k, y) :: es, e :: en, i, r, h1, h2, h => by
    simp only [List.map_cons] at h1 h2
    cases h1 with
    | cons a1 t1 =>
      cases h2 with
      | cons a2 t2 =>
        simp only [mfind] at h
        split at h
        · rename_i hq
          cases h
          have hs := same_rel hx a1 hk hq
          refine ⟨some (i, e.val), by simp [Instr.findNow, hs], .inr ⟨i, y, e.val, rfl, rfl, a2, Nat.le_refl _, by simp, k, e.key, by simp, by simp, hq⟩⟩
        · rename_i hq
          have hs := same_rel hx a1 hk hq
          obtain ⟨r', hr, hc⟩ := find_rel hx hk es en (i + 1) r t1 t2 h
          refine ⟨r', by simp [Instr.findNow, hs, hr], hc.imp id fun ⟨j, y, u, e1, e2, e3, e4, e5, kk, uk, e6, e7, e8⟩ => ?_⟩
          obtain ⟨d, rfl⟩ : ∃ d, j = i + 1 + d := ⟨j - (i + 1), by omega⟩
          have hd : i + 1 + d - i = d + 1 := by omega
          have hd' : i + 1 + d - (i + 1) = d := by omega
          rw [hd'] at e5 e6 e7
          exact ⟨_, y, u, e1, e2, e3, by omega, by rw [hd]; simpa using e5, kk, uk, by rw [hd]; simpa using e6, by rw [hd]; simpa using e7, e8⟩
        · cases h
theorem map_here {w0 : Base} {G : Gh} {σ : St} {w : World} {m : Nat} {es : List (AV × AV)} (hI : Inv w0 G σ w) (h : σ.obj m = some (.map es)) : ∃ (en : Array MapEntry), G.base ≤ m ∧ w.heap[m]? = some (.map en en.size) ∧ RelL G w (es.map (·.1)) (en.toList.map (·.key)) ∧ RelL G w (es.map (·.2)) (en.toList.map (·.val)) ∧ ∀ (i : Nat) (e : MapEntry), en[i]? = some e → e.born = i := by
  cases hI.obj m _ h with
  | map hb here hk hv hc hn => exact ⟨_, hb, by rw [here, hc], hk, hv, hn⟩
theorem check_ok {P : Program} {key : TypeId} {kd : TypeDesc} {x : AV} {G : Gh} {w : World} {v : Value} (h2 : P.underlying key = some kd) (hx : Rel G w x v) (hk : keyD kd x = true) (b : Bool) : (Instr.checkKey b 10000 key v).run P w = .ok () w := by
  have key : ∀ n, (Instr.checkKey b (n + 1) key v).run P w = .ok () w := by
    intro n
    cases x <;> (try (cases kd <;> simp [keyD] at hk; done))
    · cases hx
      cases kd <;> simp [keyD] at hk
      simp [Instr.checkKey, run_underlying h2]
    · cases hx
      cases kd <;> simp [keyD] at hk
      simp [Instr.checkKey, run_underlying h2]
  exact key 9999
section
variable {P : Program} {w0 : Base} {E : AEnv} {σ : St} {o : Oper} {K : AV → St → Prop}
theorem w_makeMap (t : TypeId) (ho : o.op = .makeMap t none) (hk : ∀ m, σ.obj m = none → K (.mp m) (σ.setObj m (some (.map [])))) : OpW P w0 o E σ K := .value fun G w a hI hE => by
  obtain ⟨h1, h2⟩ := hI.newOb (o := .map #[] 0) (q := .map []) fun w' ex hw => .map hI.size hw .nil .nil rfl (fun i e h => by simp at h)
  refine ⟨_, _, _, _, _, ?_, hk _ (hI.obj_new (Nat.le_refl _)), h1, h2, .mp⟩
  have he : execOp a.eval o = (Instr.makeMap t none >>= fun v => pure (.value v)) := by simp only [execOp, ho, Option.map_none]
  rw [he]
  simp [Instr.makeMap]
theorem w_lookup (t : TypeId) (m ix : Operand) (ok : Bool) (ho : o.op = .lookup t m ix ok) {key elem : TypeId} {kd : TypeDesc} [hM : TyM P t key elem kd] {b : Nat} {x : AV} {es : List (AV × AV)} {r : Option (Nat × AV)} (hm : aeval E m = .mp b) (hx : aeval E ix = x) (hk : keyD kd x = true) (hb : σ.obj b = some (.map es)) (hf : mfind x es 0 = some r)
    (hr : K (lookR ok r) σ) : OpW P w0 o E σ K := .value fun G w a hI hE => by
  have hmr := hE.get m (by simp [ho, Op.operands, Call.operands])
  have hxr := hE.get ix (by simp [ho, Op.operands, Call.operands])
  have he : execOp a.eval o = (Instr.lookup t (a.eval m) (a.eval ix) ok >>= fun v => pure (.value v)) := by simp only [execOp, ho]
  rw [hm] at hmr
  rw [hx] at hxr
  generalize hv : a.eval ix = v at *
  generalize hu : a.eval m = u at *
  cases hmr with
  | mp =>
    obtain ⟨en, hbb, here, hkk, hvv, hn⟩ := map_here hI hb
    obtain ⟨r', hr1, hr2⟩ := find_rel hxr hk es en.toList 0 r hkk hvv hf
    obtain ⟨iz, z, hz1, hz2⟩ := hM.h3
    have hobj : (getObj b).run P w = .ok (.map en en.size) w := by simp [getObj, Sem.run, here]
    have hck := check_ok (P := P) hM.h2 hxr hk en.isEmpty
    have hfk : (Instr.findKey key v en.toList).run P w = .ok r' w := by
      simp [Instr.findKey, run_underlying hM.h2, hr1]
    have hzr := run_zero hz1 hz2 w
    rcases hr2 with ⟨rfl, rfl⟩ | ⟨j, y, u, rfl, rfl, hy, _⟩
    · refine ⟨if ok then .tuple #[z, .bool false] else z, w, G, _, σ, ?_, hr, hI, .refl G w, ?_⟩
      · rw [he]
        simp only [Instr.lookup, Sem.run_bind, run_underlying hM.h1, Result.andThen_ok, hobj, Sem.run_pure, hck, hfk, hzr]
      · cases ok with
        | true => exact .tup (vs := [z, .bool false]) (.cons (.und z) (.cons (.bool false) .nil))
        | false => exact .und z
    · refine ⟨if ok then .tuple #[u, .bool true] else u, w, G, _, σ, ?_, hr, hI, .refl G w, ?_⟩
      · rw [he]
        simp only [Instr.lookup, Sem.run_bind, run_underlying hM.h1, Result.andThen_ok, hobj, Sem.run_pure, hck, hfk]
      · cases ok with
        | true => exact .tup (vs := [u, .bool true]) (.cons hy (.cons (.bool true) .nil))
        | false => exact hy
theorem sameBits_key {x kk : AV} {v u : Value} {G : Gh} {w : World} (hx : Rel G w x v) (hy : Rel G w kk u) (h : keyEqA x kk = some true) : Instr.sameBits 10000 u v = true := by
  cases x <;> simp only [keyEqA, reduceCtorEq] at h
  all_goals cases kk <;> simp only [reduceCtorEq] at h
  · cases hx; cases hy
    split at h
    · rename_i e; subst e
      simp at h; subst h
      simp [Instr.sameBits]
    · cases h
  · cases hx; cases hy
    simp at h; subst h
    simp only [Instr.sameBits, bytes_eq, decide_true]
theorem w_mapSet (t : TypeId) (m ix y : Operand) (ho : o.op = .mapUpdate t m ix y ∨ o.op = .insert t m ix y) {key elem : TypeId} {kd : TypeDesc} [hM : TyM P t key elem kd] {b : Nat} {x z : AV} {es es' : List (AV × AV)} (hm : aeval E m = .mp b) (hx : aeval E ix = x) (hy : aeval E y = z) (hk : keyD kd x = true) (hb : σ.obj b = some (.map es)) (hf : mput x z es = some es')
    (hK : K .und (σ.setObj b (some (.map es')))) : OpW P w0 o E σ K := .skip fun G w a hI hE => by
  have hmr := hE.get m (by rcases ho with ho | ho <;> simp [ho, Op.operands, Call.operands])
  have hxr := hE.get ix (by rcases ho with ho | ho <;> simp [ho, Op.operands, Call.operands])
  have hyr := hE.get y (by rcases ho with ho | ho <;> simp [ho, Op.operands, Call.operands])
  have he : execOp a.eval o = (Instr.mapUpdate t (a.eval m) (a.eval ix) (a.eval y) >>= fun _ => pure .skip) := by rcases ho with ho | ho <;> simp only [execOp, ho]
  rw [hm] at hmr
  rw [hx] at hxr
  rw [hy] at hyr
  generalize hv : a.eval ix = v at *
  generalize hu : a.eval m = u at *
  generalize hw : a.eval y = yv at *
  cases hmr with
  | mp =>
    obtain ⟨en, hbb, here, hkk, hvv, hn⟩ := map_here hI hb
    unfold mput at hf
    have hobj : (getObj b).run P w = .ok (.map en en.size) w := by simp [getObj, Sem.run, here]
    have hck := check_ok (P := P) hM.h2 hxr hk false
    have hset : ∀ (en' : Array MapEntry) (ck : Nat), (setObj b (.map en' ck)).run P w = .ok () (w.putObj b (.map en' ck)) := fun en' ck => by simp [setObj, Sem.run, here, World.putObj]
    have fin : ∀ (en' : Array MapEntry) (ck : Nat), ck = en'.size → (∀ (i : Nat) (e : MapEntry), en'[i]? = some e → e.born = i) → RelL G w (es'.map (·.1)) (en'.toList.map (·.key)) → RelL G w (es'.map (·.2)) (en'.toList.map (·.val)) →
        Inv w0 G (σ.setObj b (some (.map es'))) (w.putObj b (.map en' ck)) ∧ Ext G w G (w.putObj b (.map en' ck)) := by
      intro en' ck h1 h2 h3 h4
      have ex : Ext G w G (w.putObj b (.map en' ck)) := putObj_ext here rfl rfl (by simp) (by simp)
      refine ⟨hI.putOb (σ' := σ.setObj b (some (.map es'))) hbb here rfl rfl rfl rfl fun i q hi => ?_, ex⟩
      by_cases e : i = b
      · subst e
        have h' : some (Ob.map es') = some q := by simpa [St.setObj] using hi
        cases h'
        exact .inr (.map hbb (World.putObj_heap_same (lt_of_get here)) (h3.ext ex) (h4.ext ex) h1 h2)
      · exact .inl ⟨e, by simpa [St.setObj, e] using hi⟩
    split at hf
    · rename_i j y0 hmf
      cases hf
      obtain ⟨r', hr1, hr2⟩ := find_rel hxr hk es en.toList 0 _ hkk hvv hmf
      rcases hr2 with ⟨h, _⟩ | ⟨j', y1, u1, hj, rfl, hy1, _, e5, kk, uk, e6, e7, e8⟩
      · cases h
      · cases hj
        simp only [Nat.sub_zero] at e5 e6 e7
        have hfk : (Instr.findKey key v en.toList).run P w = .ok (some (j, u1)) w := by
          simp [Instr.findKey, run_underlying hM.h2, hr1]
        obtain ⟨uk', hu1, hu2⟩ := hkk.get e6
        have hjl : j < en.size := by
          have : j < (en.toList.map (·.key)).length := by
            obtain ⟨h, _⟩ := List.getElem?_eq_some_iff.1 e7; exact h
          simpa using this
        have hkey : ((en[j]?).map (·.key)).getD v = uk := by
          rw [List.getElem?_map] at e7
          have : en.toList[j]? = en[j]? := by simp
          rw [this] at e7
          rw [e7]; rfl
        have huk : uk' = uk := by rw [hu1] at e7; exact Option.some.inj e7
        subst huk
        have hsb := sameBits_key hxr hu2 e8
        have hks : (Instr.keyThatStays uk' v).run P w = .ok v w := by simp [Instr.keyThatStays, hsb]
        have hmod : (en.modify j fun e => { e with key := v, val := yv }).toList = en.toList.modify j fun e => { e with key := v, val := yv } := by simp
        have hmk : ∀ (l : List MapEntry) (j : Nat), (l.modify j fun e => { e with key := v, val := yv }).map (·.key) = if j < l.length then (l.map (·.key)).set j v else l.map (·.key) := by
          intro l
          induction l with
          | nil => intro j; simp
          | cons e l ih => intro j; cases j with
            | zero => simp
            | succ j => simp [ih]; split <;> simp_all
        have hmv : ∀ (l : List MapEntry) (j : Nat), (l.modify j fun e => { e with key := v, val := yv }).map (·.val) = if j < l.length then (l.map (·.val)).set j yv else l.map (·.val) := by
          intro l
          induction l with
          | nil => intro j; simp
          | cons e l ih => intro j; cases j with
            | zero => simp
            | succ j => simp [ih]; split <;> simp_all
        obtain ⟨hI', ex⟩ := fin (en.modify j fun e => { e with key := v, val := yv }) en.size (by simp) (fun i e hi => by
          rw [Array.getElem?_modify] at hi
          split at hi
          · obtain ⟨e0, h0, rfl⟩ := Option.map_eq_some_iff.1 hi
            exact hn i e0 h0
          · exact hn i e hi) (by
          rw [hmod, hmk, if_pos (by simpa using hjl)]
          simpa using hkk.set hxr j) (by
          rw [hmod, hmv, if_pos (by simpa using hjl)]
          simpa using hvv.set hyr j)
        refine ⟨_, _, _, ?_, hK, hI', ex⟩
        rw [he]
        simp only [Instr.mapUpdate, Sem.run_bind, run_underlying hM.h1, Result.andThen_ok, hobj, hck, hfk, hkey, hks, hset, Sem.run_pure]
    · rename_i hmf
      cases hf
      obtain ⟨r', hr1, hr2⟩ := find_rel hxr hk es en.toList 0 _ hkk hvv hmf
      rcases hr2 with ⟨_, rfl⟩ | ⟨j', y1, u1, hj, _⟩
      · have hfk : (Instr.findKey key v en.toList).run P w = .ok none w := by
          simp [Instr.findKey, run_underlying hM.h2, hr1]
        obtain ⟨hI', ex⟩ := fin (en.push { key := v, val := yv, born := en.size }) (en.size + 1) (by simp) (fun i e hi => by
          rw [Array.getElem?_push] at hi
          split at hi
          · rename_i e1; cases hi; exact e1.symm
          · exact hn i e hi) (by
          simpa using hkk.append (.cons hxr .nil)) (by
          simpa using hvv.append (.cons hyr .nil))
        refine ⟨_, _, _, ?_, hK, hI', ex⟩
        rw [he]
        simp only [Instr.mapUpdate, Sem.run_bind, run_underlying hM.h1, Result.andThen_ok, hobj, hck, hfk, hset, Sem.run_pure]
      · cases hj
    · cases hf
end
end Go.Al
end
section
set_option linter.unusedVariables false
set_option linter.unusedSimpArgs false
namespace Go.Al
open Go.RowKit
section
variable {P : Program} {w0 : Base} {E : AEnv} {σ : St} {o : Oper} {K : AV → St → Prop}
theorem w_range (t : TypeId) (x : Operand) (ho : o.op = .range t x) {s : List UInt8} (hT : P.underlying t = some .string) (hx : aeval E x = .str s) (hk : ∀ m, σ.obj m = none → K (.it m) (σ.setObj m (some (.str s 0)))) : OpW P w0 o E σ K := .value fun G w a hI hE => by
  have hxr := hE.get x (by simp [ho, Op.operands])
  rw [hx] at hxr
  have he : execOp a.eval o = (Instr.range t (a.eval x) >>= fun v => pure (.value v)) := by simp only [execOp, ho]
  generalize hv : a.eval x = v at *
  cases hxr
  obtain ⟨h1, h2⟩ := hI.newOb (o := .stringIter ⟨s.toArray⟩ 0) (q := .str s 0) fun w' ex hw => .str hI.size hw
  refine ⟨_, _, _, _, _, ?_, hk _ (hI.obj_new (Nat.le_refl _)), h1, h2, .it⟩
  rw [he]
  simp [Instr.range, run_underlying hT]
theorem w_next_y (x : Operand) (ho : o.op = .next x true) {m i : Nat} {s : List UInt8} (hx : aeval E x = .it m) (hb : σ.obj m = some (.str s i)) (hi : i < s.length)
    (hk : K (.tup [.bool true, .int .i64 i, .int .i32 (Utf8.decode ⟨s.toArray⟩ i).1]) (σ.setObj m (some (.str s (i + (Utf8.decode ⟨s.toArray⟩ i).2))))) : OpW P w0 o E σ K := .value fun G w a hI hE => by
  have hxr := hE.get x (by simp [ho, Op.operands])
  rw [hx] at hxr
  have he : execOp a.eval o = (Instr.next (a.eval x) true o.type >>= fun v => pure (.value v)) := by simp only [execOp, ho]
  generalize hv : a.eval x = v at *
  cases hxr
  cases hI.obj m _ hb with
  | str hbb here =>
    have ex : Ext G w G (w.putObj m (.stringIter ⟨s.toArray⟩ (i + (Utf8.decode ⟨s.toArray⟩ i).2))) := putObj_ext here rfl rfl (by simp) (by simp)
    have hI' := hI.putOb (σ' := σ.setObj m (some (.str s (i + (Utf8.decode ⟨s.toArray⟩ i).2)))) (o' := .stringIter ⟨s.toArray⟩ (i + (Utf8.decode ⟨s.toArray⟩ i).2)) hbb here rfl rfl rfl rfl fun j q hj => by
      by_cases e : j = m
      · subst e
        have h' : some (Ob.str s (i + (Utf8.decode ⟨s.toArray⟩ i).2)) = some q := by simpa [St.setObj] using hj
        cases h'
        exact .inr (.str hbb (World.putObj_heap_same (lt_of_get here)))
      · exact .inl ⟨e, by simpa [St.setObj, e] using hj⟩
    refine ⟨_, _, _, _, _, ?_, hk, hI', ex, .tup (.cons (.bool _) (.cons (.int _ _) (.cons (.int _ _) .nil)))⟩
    have hs : i < (⟨s.toArray⟩ : ByteArray).size := by simpa [ByteArray.size] using hi
    rw [he]
    simp [Instr.next, getObj, setObj, Sem.run, here, hs, goInt, World.putObj]
theorem w_next_n (x : Operand) (ho : o.op = .next x true) {m i : Nat} {s : List UInt8} (hx : aeval E x = .it m) (hb : σ.obj m = some (.str s i)) (hi : s.length ≤ i)
    (hk : K (.tup [.bool false]) σ) : OpW P w0 o E σ K := .value fun G w a hI hE => by
  have hxr := hE.get x (by simp [ho, Op.operands])
  rw [hx] at hxr
  have he : execOp a.eval o = (Instr.next (a.eval x) true o.type >>= fun v => pure (.value v)) := by simp only [execOp, ho]
  generalize hv : a.eval x = v at *
  cases hxr
  cases hI.obj m _ hb with
  | str hbb here =>
    refine ⟨_, _, _, _, _, ?_, hk, hI, .refl _ _, .tup (.cons (.bool _) .nil)⟩
    have hs : ¬ i < (⟨s.toArray⟩ : ByteArray).size := by simpa [ByteArray.size] using hi
    rw [he]
    simp [Instr.next, getObj, Sem.run, here, hs]
end
end Go.Al
end
section
set_option linter.unusedVariables false
set_option linter.unusedSimpArgs false
namespace Go.Al
open Go.RowKit
section
variable {P : Program} {w0 : Base} {E : AEnv} {σ : St} {o : Oper} {K : AV → St → Prop}
theorem run_nilS {t e : TypeId} (hd : P.underlying t = some (.slice e)) {op : BinOp} (hop : op = .eql ∨ op = .neq) {ox oy : Operand} (hc : isConstB oy = true) (w : World) (A : Option Addr) (n c : Nat) :
    (do eqGuard op t ox oy (.slice A n c) (.slice none 0 0); binOp op t (.slice A n c) (.slice none 0 0) : Sem Value).run P w = .ok (.bool (bif op == .eql then A.isNone else !A.isNone)) w := by
  have heq : (Op.equal t (.slice A n c) (.slice none 0 0)).run P w = .ok A.isNone w := by
    have h : ∀ k, (Op.equalIn (k + 1) t (.slice A n c) (.slice none 0 0)).run P w = .ok A.isNone w := fun k => by cases A <;> simp [Op.equalIn, run_underlying hd]
    exact h 9999
  have hg : (eqGuard op t ox oy (.slice A n c) (.slice none 0 0)).run P w = .ok () w := by
    cases oy <;> simp only [isConstB, Bool.false_eq_true] at hc
    rcases hop with rfl | rfl <;> simp [eqGuard]
  rw [Sem.run_bind, hg, Result.andThen_ok]
  rcases hop with rfl | rfl <;> simp [binOp, heq] <;> rfl
theorem w_nilS {t yt e : TypeId} {op : BinOp} (x y : Operand) (ho : o.op = .binOp op t x y yt) (hu : P.underlying t = some (.slice e)) (hop : op = .eql ∨ op = .neq) {sz : Nat} {xs : List AV} {tk : Tok} (hx : aeval E x = .slc sz xs tk) (hy : aeval E y = .nils) (hc : isConstB y = true) (h1 : K (.bool true) σ) (h2 : K (.bool false) σ) : OpW P w0 o E σ K := .value fun G w a hI hE => by
  have hxr := hE.get x (by simp [ho, Op.operands])
  have hyr := hE.get y (by simp [ho, Op.operands])
  rw [hx] at hxr; rw [hy] at hyr
  have he : execOp a.eval o = (do eqGuard op t x y (a.eval x) (a.eval y); binOp op t (a.eval x) (a.eval y) : Sem Value) >>= fun v => pure (.value v) := by simp only [execOp, ho]
  rw [he]
  generalize a.eval x = v at *
  generalize a.eval y = u at *
  cases hyr
  cases hxr
  rename_i A n cap vs _ _ _ _ _ _ _
  refine ⟨_, w, G, .bool _, σ, by rw [Sem.run_bind, run_nilS hu hop hc w A n cap]; rfl, ?_, hI, .refl _ _, .bool _⟩
  cases (bif op == .eql then A.isNone else !A.isNone)
  · exact h2
  · exact h1
theorem w_nilM {t yt e : TypeId} {op : BinOp} (x y : Operand) (ho : o.op = .binOp op t x y yt) (hu : P.underlying t = some (.slice e)) (hop : op = .eql ∨ op = .neq) {b off n cap : Nat} (hx : aeval E x = .msl b off n cap) (hy : aeval E y = .nils) (hc : isConstB y = true) (h : K (.bool (bif op == .eql then false else true)) σ) : OpW P w0 o E σ K := .value fun G w a hI hE => by
  have hxr := hE.get x (by simp [ho, Op.operands])
  have hyr := hE.get y (by simp [ho, Op.operands])
  rw [hx] at hxr; rw [hy] at hyr
  have he : execOp a.eval o = (do eqGuard op t x y (a.eval x) (a.eval y); binOp op t (a.eval x) (a.eval y) : Sem Value) >>= fun v => pure (.value v) := by simp only [execOp, ho]
  rw [he]
  generalize a.eval x = v at *
  generalize a.eval y = u at *
  cases hyr
  cases hxr
  refine ⟨_, w, G, .bool _, σ, by rw [Sem.run_bind, run_nilS hu hop hc w _ n cap]; rfl, ?_, hI, .refl _ _, .bool _⟩
  exact h
theorem ok_sliceM {t e sz : TypeId} (x : Operand) (lo hi : Option Operand) (ho : o.op = .slice t x lo hi none) (hu : P.underlying t = some (.slice e)) (hs : (P.info? e).map (·.size) = some sz) {b off n cap : Nat} (hx : aeval E x = .msl b off n cap) {p q : Int} (hp : bnd E lo 0 = some p) (hq : bnd E hi n = some q) (h : 0 ≤ p ∧ p ≤ q ∧ q ≤ cap) :
    OpOk P o E (.msl b (if cap = p.toNat then off else off + p.toNat * sz) (q.toNat - p.toNat) (cap - p.toNat)) := .plain fun G w a hE => by
  have hxr := hE.get x (by simp [ho, Op.operands])
  rw [hx] at hxr
  have he : execOp a.eval o = (Instr.sliceAt t (a.eval x) (lo.map a.eval) (hi.map a.eval) none >>= fun v => pure (.value v)) := by simp only [execOp, ho, Option.map_none]
  rw [he]
  unfold bnd at hp hq
  have bl := bound_run (fun y hy => hE.get y (by simp [ho, Op.operands, hy])) hp
  have bh := bound_run (fun y hy => hE.get y (by simp [ho, Op.operands, hy])) hq
  obtain ⟨inf, hinf, hsz⟩ := Option.map_eq_some_iff.1 hs
  generalize a.eval x = v at *
  cases hxr with
  | msl hgb hcp hm =>
    rename_i m
    have := sliceBounds_run (P := P) w (isSlice := true) (len := n) (cap := cap) bl bh h.1 h.2.1 h.2.2
    refine ⟨.slice (some ⟨m, if cap = p.toNat then off else off + p.toNat * sz, none⟩) (q.toNat - p.toNat) (cap - p.toNat), ?_, .msl hgb (by omega) (by omega)⟩
    simp only [Instr.sliceAt, Instr.slice, Sem.run_bind, run_underlying hu, Result.andThen_ok, this, run_size hinf, hsz, Sem.run_pure]
    by_cases hcp' : cap = p.toNat
    · rw [if_pos hcp', if_pos hcp']
    · rw [if_neg hcp', if_neg hcp']; simp [addr_add]
theorem zeroCells_mem {z : Array Value} {n : Nat} : ∀ v ∈ (Builtin.zeroCells z n).toList, v ∈ z.toList := fun v hv => by
  simp only [Builtin.zeroCells, Array.toList_map, List.mem_map] at hv
  obtain ⟨i, hi, rfl⟩ := hv
  have hi' : i < n * z.size := by simpa using hi
  have h0 : 0 < z.size := by
    rcases Nat.eq_zero_or_pos z.size with h | h
    · rw [h, Nat.mul_zero] at hi'; omega
    · exact h
  have hlt : i % z.size < z.size := Nat.mod_lt _ h0
  rw [getElem!_pos z (i % z.size) hlt]
  simp
theorem w_clear {t e : TypeId} {zz : List AV} (x : Operand) (ho : o.op = .call { callee := .builtin .clear, args := #[x], argTypes := #[t] }) (hu : P.underlying t = some (.slice e)) (hz : aZero P e = some zz) {b off n cap : Nat} {cs : List AV} (hx : aeval E x = .msl b off n cap) (hb : σ.box b = some cs) (hl : off + n * zz.length ≤ cs.length)
    (hk : K (.tup []) (σ.setBox b (setL cs off (List.replicate (n * zz.length) .und)))) : OpW P w0 o E σ K := .value fun G w a hI hE => by
  have hxr := hE.get x (by simp [ho, Op.operands, Call.operands])
  rw [hx] at hxr
  have he : execOp a.eval o = (Builtin.clear_ #[t] o.type #[a.eval x] >>= fun v => pure (.value v)) := by simp [execOp, ho, resolve, invoke, builtin]
  rw [he]
  generalize a.eval x = v at *
  unfold aZero at hz
  split at hz
  · rename_i z hzz
    obtain ⟨inf, hinf, hz0⟩ := Option.bind_eq_some_iff.1 hzz
    split at hz
    · rename_i hone
      cases hz
      cases hxr with
      | msl hgb hcp hm =>
        rename_i mm
        obtain ⟨m, c, T', k1, k2, k3, k4, k5⟩ := (hI.box b cs hb).ex
        obtain rfl : m = mm := by rw [k1] at hgb; exact Option.some.inj hgb
        have hcsz : cs.length = c.size := by rw [← k4.length]; simp
        rw [List.length_map, Array.length_toList] at hl hk
        by_cases hn : n = 0
        · subst hn
          rw [Nat.zero_mul, List.replicate_zero, setL, setBox_id hb] at hk
          exact ⟨.tuple #[], w, G, _, σ, by simp [Builtin.clear_, run_underlying hu], hk, hI, .refl _ _, .tup .nil⟩
        · have hzl : (Builtin.zeroCells z.cells n).toList.length = n * z.cells.size := by simp [Builtin.zeroCells]
          have hzrel : RelL G w (List.replicate (n * z.cells.size) .und) (Builtin.zeroCells z.cells n).toList := by rw [← hzl]; exact relL_und _
          have h1c : ∀ v ∈ (Builtin.zeroCells z.cells n).toList, v.oneCell' = true := fun v hv => by
            refine relL_oneCell (aCells_rel G w z.cells.toList) (fun q hq => ?_) v (zeroCells_mem v hv)
            obtain ⟨y, hy, rfl⟩ := List.mem_map.1 hq
            exact List.all_eq_true.1 hone y hy
          obtain ⟨w', hrun, R⟩ := run_storeCells P m T' (0, 0) off (Builtin.zeroCells z.cells n).toList 0 c w k3 (.inl rfl) (by omega) h1c
          rw [Nat.add_zero] at R
          obtain ⟨hI', ex⟩ := hI.write (cs' := setL cs off (List.replicate (n * z.cells.size) .und)) hb k1 k3 k5 k2 R (fun e => setAll_rel off (hzrel.ext e) (k4.ext e))
          refine ⟨.tuple #[], w', G, _, _, ?_, hk, hI', ex, .tup .nil⟩
          obtain ⟨n', rfl⟩ : ∃ n', n = n' + 1 := ⟨n - 1, by omega⟩
          simp [Builtin.clear_, run_underlying hu, run_zero hinf hz0, hrun]
    · cases hz
  · cases hz
theorem w_copyM {t u e : TypeId} {sz : Nat} (d s : Operand) (ho : o.op = .call { callee := .builtin .copy, args := #[d, s], argTypes := #[t, u] }) (hu : P.underlying t = some (.slice e)) (hs : (P.info? e).map (·.size) = some sz) {b off n cap : Nat} {cs ys : List AV} (hd : aeval E d = .msl b off n cap) (hb : σ.box b = some cs) (hl : off + n * sz ≤ cs.length) (hy : aSrc sz (aeval E s) = some ys) (hn : ys.length ≤ n)
    (hk : K (.int .i64 ys.length) (σ.setBox b (setL cs off (ys.flatMap AV.cells)))) : OpW P w0 o E σ K := .value fun G w a hI hE => by
  have hdr := hE.get d (by simp [ho, Op.operands, Call.operands])
  have hsr := hE.get s (by simp [ho, Op.operands, Call.operands])
  rw [hd] at hdr
  have he : execOp a.eval o = (Builtin.copy_ #[t, u] o.type #[a.eval d, a.eval s] >>= fun v => pure (.value v)) := by simp [execOp, ho, resolve, invoke, builtin]
  rw [he]
  generalize a.eval d = v at *
  generalize a.eval s = v2 at *
  obtain ⟨hln, vs, hfc, hrel, hvl, hys⟩ := src_run (P := P) hy hsr
  obtain ⟨inf, hinf, hsz⟩ := Option.map_eq_some_iff.1 hs
  cases hdr with
  | msl hgb hcp hm =>
    rename_i mm
    obtain ⟨m, c, T', k1, k2, k3, k4, k5⟩ := (hI.box b cs hb).ex
    obtain rfl : m = mm := by rw [k1] at hgb; exact Option.some.inj hgb
    have hcsz : cs.length = c.size := by rw [← k4.length]; simp
    have hmul : ys.length * sz ≤ n * sz := Nat.mul_le_mul_right _ hn
    obtain ⟨w', hrun, R⟩ := run_storeCells P m T' (0, 0) off vs 0 c w k3 (.inl rfl) (by omega) (relL_oneCell hrel (fun x hx => by
      obtain ⟨y, hy, hc⟩ := List.mem_flatMap.1 hx
      exact (hys y hy).2 x hc))
    rw [Nat.add_zero] at R
    obtain ⟨hI', ex⟩ := hI.write (cs' := setL cs off (ys.flatMap AV.cells)) hb k1 k3 k5 k2 R (fun e => setAll_rel off (hrel.ext e) (k4.ext e))
    refine ⟨.int .i64 ys.length, w', G, _, _, ?_, hk, hI', ex, .int _ _⟩
    have hmin : Nat.min ys.length n = ys.length := Nat.min_eq_left hn
    simp only [Builtin.copy_, List.getElem?_toArray, List.getElem?_cons_zero, List.getElem?_cons_succ, Sem.run_bind, run_underlying hu, Result.andThen_ok, Sem.run_pure, hln, run_size hinf, hsz, hmin, hfc, hrun]
    rfl
theorem w_copyO {t u e : TypeId} {sz : Nat} (d s : Operand) (ho : o.op = .call { callee := .builtin .copy, args := #[d, s], argTypes := #[t, u] }) (hu : P.underlying t = some (.slice e)) (hs : (P.info? e).map (·.size) = some sz) {b off n cap b2 off2 n2 cap2 : Nat} {cs ds us : List AV} (hd : aeval E d = .msl b off n cap) (hb : σ.box b = some cs) (hl : off + n * sz ≤ cs.length)
    (hx : aeval E s = .msl b2 off2 n2 cap2) {k : Nat} (hb2 : σ.box b2 = some ds) (hn : min n2 n = k) (hus : (ds.drop off2).take (k * sz) = us) (hul : us.length = k * sz) (h1 : us.all AV.one = true)
    (hk : K (.int .i64 k) (σ.setBox b (setL cs off us))) : OpW P w0 o E σ K := .value fun G w a hI hE => by
  have hdr := hE.get d (by simp [ho, Op.operands, Call.operands])
  have hsr := hE.get s (by simp [ho, Op.operands, Call.operands])
  rw [hd] at hdr; rw [hx] at hsr
  have he : execOp a.eval o = (Builtin.copy_ #[t, u] o.type #[a.eval d, a.eval s] >>= fun v => pure (.value v)) := by simp [execOp, ho, resolve, invoke, builtin]
  rw [he]
  generalize a.eval d = v at *
  generalize a.eval s = v2 at *
  obtain ⟨inf, hinf, hsz⟩ := Option.map_eq_some_iff.1 hs
  cases hdr with
  | msl hgb hcp hm =>
    rename_i mm
    obtain ⟨m, c, T', k1, k2, k3, k4, k5⟩ := (hI.box b cs hb).ex
    obtain rfl : m = mm := by rw [k1] at hgb; exact Option.some.inj hgb
    cases hsr with
    | msl hgb2 hcp2 hm2 =>
      rename_i mm2
      obtain ⟨m2, c2, T2, q1, q2, q3, q4, q5⟩ := (hI.box b2 ds hb2).ex
      obtain rfl : m2 = mm2 := by rw [q1] at hgb2; exact Option.some.inj hgb2
      have hcsz : cs.length = c.size := by rw [← k4.length]; simp
      have hmul : k * sz ≤ n * sz := Nat.mul_le_mul_right _ (by omega)
      have hrel : RelL G w us ((c2.toList.drop off2).take (k * sz)) := by rw [← hus]; exact (q4.drop _).take _
      have hvl : ((c2.toList.drop off2).take (k * sz)).length = k * sz := by rw [hrel.length, hul]
      have hld := run_loadCells_list (P := P) w ⟨m2, off2, none⟩ ((c2.toList.drop off2).take (k * sz)) (fun j v hj => by
        rw [addr_add, cell_block q3]
        rw [List.getElem?_take] at hj
        split at hj
        · rw [List.getElem?_drop] at hj; simpa using hj
        · cases hj)
      rw [hvl] at hld
      obtain ⟨w', hrun, R⟩ := run_storeCells P m T' (0, 0) off ((c2.toList.drop off2).take (k * sz)) 0 c w k3 (.inl rfl) (by omega) (relL_oneCell hrel fun x hx => List.all_eq_true.1 h1 x hx)
      rw [Nat.add_zero] at R
      obtain ⟨hI', ex⟩ := hI.write (cs' := setL cs off us) hb k1 k3 k5 k2 R (fun e => setAll_rel off (hrel.ext e) (k4.ext e))
      refine ⟨.int .i64 k, w', G, _, _, ?_, hk, hI', ex, .int _ _⟩
      have hmin : Nat.min n2 n = k := hn
      simp only [Builtin.copy_, Builtin.lenOf, Builtin.firstCells, List.getElem?_toArray, List.getElem?_cons_zero, List.getElem?_cons_succ, Sem.run_bind, run_underlying hu, Result.andThen_ok, Sem.run_pure, run_size hinf, hsz, hmin, hld, hrun]
      rfl
theorem w_appendE {t u e : TypeId} {i : TypeInfo} {z : Value} (T : AppT P t u e i z) (s x : Operand) (ho : o.op = .call { callee := .builtin .append, args := #[s, x], argTypes := #[t, u] }) {ys : List AV}
    (hs : aeval E s = .slc i.size [] .full) (hx : aSrc i.size (aeval E x) = some ys) (hne : ys ≠ []) (hf : AppFits i ys.length)
    (hk : ∀ b cap, σ.box b = none → ys.length ≤ cap → K (.msl b 0 ys.length cap) (σ.setBox b (ys.flatMap AV.cells ++ List.replicate ((cap - ys.length) * i.size) .und))) : OpW P w0 o E σ K := .value fun G w a hI hE => by
  have hsr := hE.get s (by simp [ho, Op.operands, Call.operands])
  rw [hs] at hsr
  have hxr := hE.get x (by simp [ho, Op.operands, Call.operands])
  have he : execOp a.eval o = (Builtin.append_ #[t, u] o.type #[a.eval s, a.eval x] >>= fun v => pure (.value v)) := by simp [execOp, ho, resolve, invoke, builtin]
  rw [he]
  generalize a.eval s = vsl at *
  generalize a.eval x = v at *
  obtain ⟨hl, vs, hfc, hrel, hvl, hys⟩ := src_run (P := P) hx hxr
  cases hsr with
  | slc g1 g2 g3 g4 g5 g6 g7 =>
  rename_i A n0 cap0 vs0
  obtain rfl : n0 = 0 := by simpa using g1.symm
  obtain rfl : cap0 = 0 := g7
  have hpos : 0 < ys.length := List.length_pos_iff.2 hne
  obtain ⟨_, h2⟩ := append_run T o.type (A := A) (len := 0) (cap := 0) hl hfc
  let w1 : World := { w with drawn := w.drawn + 1 }
  have hA : Alike0 w w1 := ⟨rfl, rfl, rfl, rfl⟩
  obtain ⟨_, us, hfc', hrel', hul, _⟩ := src_run (P := P) hx (hxr.ext hA.ext)
  have hfirst : (Builtin.firstCells i.size 0 (.slice A 0 0)).run P w1 = .ok #[] w1 := by
    cases A with
    | none => rfl
    | some a =>
      have := run_loadCells_list (P := P) w1 a [] (fun j v hj => by simp at hj)
      simpa [Builtin.firstCells] using this
  obtain ⟨nc, hnc, hnl, hrun⟩ := h2 (by omega) (by rw [Nat.zero_add]; exact hf.1) (by have := hf.2; simp only [maxLen] at this; omega) #[] us.toArray hfirst hfc'
  rw [Nat.zero_add] at hnc hrun
  obtain ⟨b, hb, hsb⟩ := fresh_box (hA.inv hI)
  have hlz : (Builtin.zeroCells z.cells (nc - ys.length)).toList.length = (nc - ys.length) * i.size := by rw [length_zeroCells, T.hs]
  have hcells : RelL G w1 (ys.flatMap AV.cells ++ List.replicate ((nc - ys.length) * i.size) .und) (#[] ++ us.toArray ++ Builtin.zeroCells z.cells (nc - ys.length)).toList := by
    have := hrel'.append (relL_und (G := G) (w := w1) (Builtin.zeroCells z.cells (nc - ys.length)).toList)
    rw [hlz] at this
    simpa using this
  obtain ⟨k1, k2⟩ := inv_box (hA.inv hI) hb e hcells
  exact ⟨_, _, _, _, _, by rw [Sem.run_bind, hrun]; rfl, hk b nc hsb hnc, k1, hA.ext.trans k2, .msl (m := w1.heap.size) (by simp [Gh.withBox]) hnc (by simp only [maxLen]; omega)⟩
theorem w_appendZ {t u e : TypeId} {i : TypeInfo} {z : Value} {k0 : IntKind} (T : AppT P t t e i z) (hu : P.underlying u = some (.int k0)) (s x : Operand) (ho : o.op = .call { callee := .builtin .append, args := #[s, x], argTypes := #[t, u] }) {cs : List AV} {b n cap kn : Nat}
    (hs : aeval E s = .msl b 0 n cap) (hb : σ.box b = some cs) (hcl : cap * i.size ≤ cs.length) (hn : n ≤ cap) (hx : aeval E x = .int .i64 kn) (hgt : cap < n + kn) (hf : AppFits i (n + kn)) (h0 : 0 < i.size) (hby : 0 < i.bytes)
    (hk : ∀ b' cap', σ.box b' = none → n + kn ≤ cap' → K (.msl b' 0 (n + kn) cap') (σ.setBox b' (cs.take (n * i.size) ++ List.replicate ((cap' - n) * i.size) .und))) : OpW P w0 o E σ K := .value fun G w a hI hE => by
  have hsr := hE.get s (by simp [ho, Op.operands, Call.operands])
  have hxr := hE.get x (by simp [ho, Op.operands, Call.operands])
  rw [hs] at hsr; rw [hx] at hxr
  have he : execOp a.eval o = (Builtin.append_ #[t, u] o.type #[a.eval s, a.eval x] >>= fun v => pure (.value v)) := by simp [execOp, ho, resolve, invoke, builtin]
  rw [he]
  generalize a.eval s = vsl at *
  generalize a.eval x = v at *
  cases hxr
  obtain ⟨hfb, hfm⟩ := hf
  simp only [maxLen] at hfm
  cases hsr with
  | msl hgb hc hm =>
    rename_i mm
    obtain ⟨m, c, T', k1, k2, k3, k4, k5⟩ := (hI.box b cs hb).ex
    obtain rfl : m = mm := by rw [k1] at hgb; exact Option.some.inj hgb
    have hcsz : cs.length = c.size := by rw [← k4.length]; simp
    let w1 : World := { w with drawn := w.drawn + 1 }
    have hA : Alike0 w w1 := ⟨rfl, rfl, rfl, rfl⟩
    have hfirst : (Builtin.firstCells i.size n (.slice (some ⟨m, 0, none⟩) n cap)).run P w1 = .ok (c.toList.take (n * i.size)).toArray w1 := by
      have hnm : n * i.size ≤ cap * i.size := Nat.mul_le_mul_right _ hn
      have hlen : (c.toList.take (n * i.size)).length = n * i.size := by simp; omega
      simp only [Builtin.firstCells]
      have := run_loadCells_list (P := P) w1 ⟨m, 0, none⟩ (c.toList.take (n * i.size)) (fun j v hj => by
        rw [addr_add, Nat.zero_add, cell_block (w := w1) (c := c) (T := T') (fr := (0, 0)) k3]
        rw [List.getElem?_take] at hj
        split at hj
        · simpa using hj
        · cases hj)
      rw [hlen] at this
      exact this
    have hwr : IntKind.i64.wrap (kn : Int) = kn := IntWalk.i64_in _ (by omega)
    have hnn : ¬ ((kn : Int) < 0) := by omega
    have h2p : (2 : Int) ^ 48 = 281474976710656 := by decide
    have h2n : (2 : Nat) ^ 48 = 281474976710656 := by decide
    have hkb : kn * i.bytes ≤ (n + kn) * i.bytes := Nat.mul_le_mul_right _ (by omega)
    have hbig : ¬ ((kn : Int) * (i.bytes : Int) > 2 ^ 48) := by
      rw [h2p]
      have : ((kn * i.bytes : Nat) : Int) ≤ 140737488355328 := Int.ofNat_le.2 (Nat.le_trans hkb hfb)
      rw [Int.natCast_mul] at this
      omega
    have hnc : ¬ n + kn ≤ cap := by omega
    have hmx : ¬ ((n + kn : Nat) : Int) > IntKind.i64.max := by
      have : IntKind.i64.max = 9223372036854775807 := by decide
      rw [this]; omega
    have h48 : ¬ Builtin.nextslicecap (n + kn) cap * i.bytes > 2 ^ 48 := by
      have := nextcap_le hgt
      have : Builtin.nextslicecap (n + kn) cap * i.bytes ≤ 2 * (n + kn) * i.bytes := Nat.mul_le_mul_right _ this
      rw [Nat.mul_assoc] at this
      omega
    have hz0 : ¬ (kn * i.size = 0) := by
      have : 0 < kn * i.size := Nat.mul_pos (by omega) h0
      omega
    let nc := (Question.appendCap (n + kn) cap e).cut (w.tape w.drawn (.appendCap (n + kn) cap e))
    have hnc1 : n + kn ≤ nc := by show _ ≤ (Question.cut _ _); simp only [Question.cut]; omega
    have h63 : (2 : Nat) ^ 63 = 9223372036854775808 := by decide
    have hnc2 : nc < 9223372036854775808 := by
      show (Question.cut _ _) < _
      simp only [Question.cut]
      have : (w.tape w.drawn (.appendCap (n + kn) cap e)) % (2 ^ 63 - (n + kn)) < 2 ^ 63 - (n + kn) := Nat.mod_lt _ (by omega)
      omega
    have hai : (asInt (.int .i64 kn)).run P w = .ok (kn : Int) w := by simp only [asInt, asIntOf, Sem.run_bind, Sem.run_pure, Result.andThen_ok]
    have hrun : (Builtin.append_ #[t, u] o.type #[.slice (some ⟨m, 0, none⟩) n cap, .int .i64 kn]).run P w = .ok (.slice (some ⟨w.heap.size, 0, none⟩) (n + kn) nc) { w with drawn := w.drawn + 1, heap := w.heap.push (.cells ((c.toList.take (n * i.size)).toArray ++ Builtin.zeroCells z.cells kn ++ Builtin.zeroCells z.cells (nc - (n + kn))) e) } := by
      simp only [Builtin.append_, List.getElem?_toArray, List.getElem?_cons_zero, List.getElem?_cons_succ, Sem.run_bind, run_underlying T.ht, run_underlying hu, Result.andThen_ok, run_size T.hi, Sem.run_pure, if_true, hai, hwr, hnn, if_false, typeInfo, run_program, T.hi, hbig, Int.toNat_natCast, if_neg hnc, Sem.run_ite, hmx, false_and, h48, run_choose, Question.forced, run_askRoom, hfirst, hz0, run_zero T.hi T.hz, newRow, run_newObj, Bool.not_true, Bool.false_eq_true]
      have hf1 : (Builtin.firstCells i.size n (.slice (some ⟨m, 0, none⟩) n cap)).run P { w with drawn := w.drawn + 1 } = .ok (c.toList.take (n * i.size)).toArray { w with drawn := w.drawn + 1 } := hfirst
      rw [hf1]
      rfl
    obtain ⟨b', hb', hsb⟩ := fresh_box (hA.inv hI)
    have hcells : RelL G w1 (cs.take (n * i.size) ++ List.replicate ((nc - n) * i.size) .und) ((c.toList.take (n * i.size)).toArray ++ Builtin.zeroCells z.cells kn ++ Builtin.zeroCells z.cells (nc - (n + kn))).toList := by
      have h1 := (relL_und (G := G) (w := w1) (Builtin.zeroCells z.cells kn).toList).append (relL_und (G := G) (w := w1) (Builtin.zeroCells z.cells (nc - (n + kn))).toList)
      rw [length_zeroCells, length_zeroCells, T.hs, List.replicate_append_replicate, ← Nat.add_mul, show kn + (nc - (n + kn)) = nc - n by omega] at h1
      have := ((k4.ext hA.ext).take (n * i.size)).append h1
      simpa using this
    obtain ⟨q1, q2⟩ := inv_box (hA.inv hI) hb' e hcells
    exact ⟨_, _, _, _, _, by rw [Sem.run_bind, hrun]; rfl, hk b' nc hsb hnc1, q1, hA.ext.trans q2, .msl (m := w1.heap.size) (by simp [Gh.withBox]) hnc1 (by simp only [maxLen]; omega)⟩
structure ExtW (P : Program) (w0 : Base) (f : FuncId) (as : List AV) (σ : St) (r : AV) : Prop where
  go : ∀ G w vs, Inv w0 G σ w → RelL G w as vs → ∃ v, (callFunc f vs.toArray).run P w = .ok (.value v) w ∧ Rel G w r v
theorem op_ext {x : Operand} {args : Array Operand} {ts : Array TypeId} (ho : o.op = .call { callee := .value x, args, argTypes := ts }) {f : FuncId} {first cap : List AV} (hx : aeval E x = .fn (.func f) first cap) {r : AV} (h : ExtW P w0 f (first ++ args.toList.map (aeval E) ++ cap) σ r) (k : K r σ) : OpW P w0 o E σ K := .value fun G w a hI hE => by
  have hxr := hE.get x (by simp [ho, Op.operands, Call.operands])
  rw [hx] at hxr
  have har := evals_rel args.toList fun y hy => hE.get y (by simp [ho, Op.operands, Call.operands]; exact .inr (by simpa using hy))
  generalize hv : a.eval x = v at hxr
  cases hxr with
  | fn h1 h2 =>
    rename_i vs us
    obtain ⟨v, h3, h4⟩ := h.go G w _ hI ((h1.append har).append h2)
    have e : (vs ++ args.toList.map a.eval ++ us).toArray = vs.toArray ++ args.map a.eval ++ us.toArray := by apply Array.ext'; simp
    rw [e] at h3
    refine ⟨v, w, G, r, σ, ?_, k, hI, .refl _ _, h4⟩
    simp only [execOp, ho, resolve, hv, Deferred.ofValue, Sem.run_bind, Sem.run_pure, Result.andThen_ok, invoke]
    exact h3
theorem ok_capM {t e : TypeId} (x : Operand) (ho : o.op = .call { callee := .builtin .cap, args := #[x], argTypes := #[t] }) (hu : P.underlying t = some (.slice e)) {b off n cap : Nat} (hx : aeval E x = .msl b off n cap) : OpOk P o E (.int .i64 cap) := .plain fun G w a hE => by
  have hxr := hE.get x (by simp [ho, Op.operands, Call.operands])
  rw [hx] at hxr
  generalize hv : a.eval x = v at hxr
  cases hxr
  exact ⟨.int .i64 cap, by simp [execOp, ho, resolve, invoke, builtin, hv, Builtin.cap_, run_underlying hu, goInt], .int _ _⟩
theorem ok_sliceDataN {ts : Array TypeId} (x : Operand) (ho : o.op = .call { callee := .builtin .unsafeSliceData, args := #[x], argTypes := ts }) (hx : aeval E x = .nils) : OpOk P o E .nilp := .plain fun G w a hE => by
  have hxr := hE.get x (by simp [ho, Op.operands, Call.operands])
  rw [hx] at hxr
  have he : execOp a.eval o = (Builtin.unsafeSliceData_ ts o.type #[a.eval x] >>= fun v => pure (.value v)) := by simp [execOp, ho, resolve, invoke, builtin]
  rw [he]
  generalize hv : a.eval x = v at hxr
  cases hxr
  exact ⟨.pointer none, by rw [Sem.run_bind, Lib.run_unsafeSliceData_nil]; rfl, .nilp⟩
theorem ok_sliceDataM {ts : Array TypeId} (x : Operand) (ho : o.op = .call { callee := .builtin .unsafeSliceData, args := #[x], argTypes := ts }) {b off n cap : Nat} (hx : aeval E x = .msl b off n cap) (hc : cap ≠ 0) : OpOk P o E (.ptr b off) := .plain fun G w a hE => by
  have hxr := hE.get x (by simp [ho, Op.operands, Call.operands])
  rw [hx] at hxr
  have he : execOp a.eval o = (Builtin.unsafeSliceData_ ts o.type #[a.eval x] >>= fun v => pure (.value v)) := by simp [execOp, ho, resolve, invoke, builtin]
  rw [he]
  generalize hv : a.eval x = v at hxr
  cases hxr with
  | msl hgb hcap hm => exact ⟨.pointer _, by rw [Sem.run_bind, Lib.run_unsafeSliceData_row _ _ _ _ _ _ hc]; rfl, .ptr hgb⟩
end
end Go.Al
end
section
set_option linter.unusedVariables false
set_option linter.unusedSimpArgs false
namespace Go.Al
open Go.RowKit

structure Know (σ : St) (B : BL) : Prop where
  has : ∀ p ∈ B, σ.box p.1 = some p.2
  nd : (B.map (·.1)).Nodup
def setN : BL → Nat → Nat × List AV → BL
  | [], _, _ => []
  | _ :: l, 0, q => q :: l
  | p :: l, n + 1, q => p :: setN l n q
def xSetN : BL → Nat → Nat × List AV → (BL → Prop) → Prop
  | [], _, _, k => k []
  | _ :: l, 0, q, k => k (q :: l)
  | p :: l, n + 1, q, k => xSetN l n q fun l' => k (p :: l')
theorem xSetN_eq : ∀ (B : BL) (n : Nat) (q : Nat × List AV) (k : BL → Prop), xSetN B n q k = k (setN B n q)
  | [], _, _, k => rfl
  | _ :: l, 0, q, k => rfl
  | p :: l, n + 1, q, k => by rw [xSetN, xSetN_eq l]; rfl
theorem nth_mem {α : Type} : ∀ {l : List α} {i : Nat} {x : α}, nth l i = some x → x ∈ l
  | [], _, _, h => by simp [nth] at h
  | y :: l, 0, x, h => by simp [nth] at h; simp [h]
  | y :: l, i + 1, x, h => by simp [nth] at h; exact List.mem_cons_of_mem _ (nth_mem h)
theorem Know.get {σ : St} {B : BL} (h : Know σ B) {i b : Nat} {cs : List AV} (hi : nth B i = some (b, cs)) : σ.box b = some cs := h.has _ (nth_mem hi)
theorem Know.nil (σ : St) : Know σ [] := ⟨fun p hp => by simp at hp, by simp⟩
theorem Know.new {σ : St} {B : BL} (h : Know σ B) {b : Nat} {cs : List AV} (hb : σ.box b = none) : Know (σ.setBox b cs) ((b, cs) :: B) := by
  have hne : ∀ p ∈ B, p.1 ≠ b := fun p hp e => by
    have := h.has p hp
    rw [e, hb] at this; cases this
  refine ⟨fun p hp => ?_, ?_⟩
  · rcases List.mem_cons.1 hp with rfl | hp
    · exact setBox_same
    · rw [setBox_ne (hne p hp)]; exact h.has p hp
  · rw [List.map_cons, List.nodup_cons]
    refine ⟨fun hm => ?_, h.nd⟩
    obtain ⟨p, hp, e⟩ := List.mem_map.1 hm
    exact hne p hp e
theorem setN_keys : ∀ (B : BL) (i : Nat) {b : Nat} {cs ds : List AV}, nth B i = some (b, cs) → (setN B i (b, ds)).map (·.1) = B.map (·.1)
  | [], _, _, _, _, h => by simp [nth] at h
  | p :: l, 0, b, cs, ds, h => by simp [nth] at h; subst h; rfl
  | p :: l, i + 1, b, cs, ds, h => by rw [setN, List.map_cons, List.map_cons, setN_keys l i (by simpa [nth] using h)]
theorem setN_mem : ∀ (B : BL) (i : Nat) {b : Nat} {cs ds : List AV}, nth B i = some (b, cs) → (B.map (·.1)).Nodup → ∀ p ∈ setN B i (b, ds), p = (b, ds) ∨ (p ∈ B ∧ p.1 ≠ b)
  | [], _, _, _, _, h, _, p, hp => by simp [nth] at h
  | q :: l, 0, b, cs, ds, h, nd, p, hp => by
    simp [nth] at h; subst h
    rcases List.mem_cons.1 hp with rfl | hp
    · exact .inl rfl
    · refine .inr ⟨List.mem_cons_of_mem _ hp, fun e => ?_⟩
      rw [List.map_cons, List.nodup_cons] at nd
      exact nd.1 (List.mem_map.2 ⟨p, hp, e⟩)
  | q :: l, i + 1, b, cs, ds, h, nd, p, hp => by
    have h' : nth l i = some (b, cs) := by simpa [nth] using h
    rw [List.map_cons, List.nodup_cons] at nd
    rcases List.mem_cons.1 hp with rfl | hp
    · exact .inr ⟨by simp, fun e => nd.1 (List.mem_map.2 ⟨_, nth_mem h', e.symm⟩)⟩
    · rcases setN_mem l i h' nd.2 p hp with h1 | ⟨h1, h2⟩
      · exact .inl h1
      · exact .inr ⟨List.mem_cons_of_mem _ h1, h2⟩
theorem Know.set {σ : St} {B : BL} (h : Know σ B) {i b : Nat} {cs ds : List AV} (hi : nth B i = some (b, cs)) : Know (σ.setBox b ds) (setN B i (b, ds)) := by
  refine ⟨fun p hp => ?_, by rw [setN_keys B i hi]; exact h.nd⟩
  rcases setN_mem B i hi h.nd p hp with rfl | ⟨h1, h2⟩
  · exact setBox_same
  · rw [setBox_ne h2]; exact h.has p h1
theorem Know.moves {σ σ' : St} {B : BL} {tk tk' : Tok} (h : Know σ B) (m : Moves σ tk σ' tk') : Know σ' B := ⟨fun p hp => m.box _ _ (h.has p hp), h.nd⟩
inductive BSub : BL → BL → Prop
  | nil : BSub [] []
  | drop {p : Nat × List AV} {A B : BL} (h : BSub A B) : BSub A (p :: B)
  | keep {p : Nat × List AV} {A B : BL} (h : BSub A B) : BSub (p :: A) (p :: B)
theorem BSub.subl {A B : BL} (h : BSub A B) : List.Sublist A B := by
  induction h with
  | nil => exact .slnil
  | drop _ ih => exact .cons _ ih
  | keep _ ih => exact .cons_cons _ ih
theorem Know.sub {σ : St} {A B : BL} (h : Know σ B) (s : BSub A B) : Know σ A := ⟨fun p hp => h.has p (s.subl.subset hp), (s.subl.map _).nodup h.nd⟩
theorem BSub.none : ∀ B : BL, BSub [] B
  | [] => .nil
  | _ :: l => .drop (BSub.none l)
theorem BSub.refl : ∀ B : BL, BSub B B
  | [] => .nil
  | _ :: l => .keep (BSub.refl l)

structure Stop (p : Prop) : Prop where h : p
structure SCond (b : Bool) (p q : Prop) : Prop where
  t : b = true → p
  f : b = false → q
theorem SCond.y {b : Bool} {p q : Prop} (h : b = true) (k : p) : SCond b p q := ⟨fun _ => k, fun e => by rw [h] at e; cases e⟩
theorem SCond.n {b : Bool} {p q : Prop} (h : b = false) (k : q) : SCond b p q := ⟨fun e => (by rw [h] at e; cases e), fun _ => k⟩
structure SPick (b : Bool) (u v : AV) (K : AV → Prop) : Prop where
  go : K (bif b then u else v)
theorem SPick.y {b : Bool} {u v : AV} {K : AV → Prop} (h : b = true) (k : fAV 4 u K) : SPick b u v K := ⟨by subst h; rw [fAV_eq] at k; exact k⟩
theorem SPick.n {b : Bool} {u v : AV} {K : AV → Prop} (h : b = false) (k : fAV 4 v K) : SPick b u v K := ⟨by subst h; rw [fAV_eq] at k; exact k⟩
theorem SPick.b {b p q : Bool} {K : AV → Prop} (k : K (.bool (bif b then p else q))) : SPick b (.bool p) (.bool q) K := ⟨by cases b <;> exact k⟩
theorem SPick.i {b : Bool} {kk : IntKind} {p q : Int} {K : AV → Prop} (k : K (.int kk (bif b then p else q))) : SPick b (.int kk p) (.int kk q) K := ⟨by cases b <;> exact k⟩
theorem SPick.x {b : Bool} {u v : AV} {K : AV → Prop} (h1 : b = true → fAV 4 u K) (h2 : b = false → fAV 4 v K) : SPick b u v K := by
  cases b
  · exact .n rfl (h2 rfl)
  · exact .y rfl (h1 rfl)
structure SLoad (P : Program) (T : TT) (t : TypeId) (b off : Nat) (B : BL) (stop : Prop) (K : AV → Prop) : Prop where
  go : T.ok P → stop ∨ ∃ i cs r, nth B i = some (b, cs) ∧ aLoadBox P t cs off = some r ∧ K r
theorem SLoad.on {P : Program} {T : TT} {t : TypeId} {b off : Nat} {B : BL} {stop : Prop} {K : AV → Prop} (i : Nat) {cs : List AV} (h : nth B i = some (b, cs)) (k : xLoad T t cs off stop K) : SLoad P T t b off B stop K := ⟨fun hT => by
  rcases xLoad_ok hT k with h1 | ⟨r, h1, h2⟩
  · exact .inl h1
  · exact .inr ⟨i, cs, r, h, h1, h2⟩⟩
theorem SLoad.as {P : Program} {T : TT} {t : TypeId} {b off : Nat} {B : BL} {stop : Prop} {K : AV → Prop} (i : Nat) {cs : List AV} (r : AV) (h : nth B i = some (b, cs)) (hr : aLoadBox P t cs off = some r) (k : fAV 4 r K) : SLoad P T t b off B stop K := ⟨fun hT => by
  rw [fAV_eq] at k
  exact .inr ⟨i, cs, r, h, hr, k⟩⟩
structure SLoadH (P : Program) (T : TT) (t : TypeId) (b off : Nat) (B : BL) (hd : Option (Nat × List AV)) (stop : Prop) (K : AV → Prop) : Prop where
  go : T.ok P → stop ∨ ∃ i cs r, nth B i = some (b, cs) ∧ hd = some (b, cs) ∧ aLoadBox P t cs off = some r ∧ K r
theorem SLoadH.on {P : Program} {T : TT} {t : TypeId} {b off : Nat} {B : BL} {hd : Option (Nat × List AV)} {stop : Prop} {K : AV → Prop} (i : Nat) {cs : List AV} (h : nth B i = some (b, cs)) (hh : hd = some (b, cs)) (k : xLoad T t cs off stop K) : SLoadH P T t b off B hd stop K := ⟨fun hT => by
  rcases xLoad_ok hT k with h1 | ⟨r, h1, h2⟩
  · exact .inl h1
  · exact .inr ⟨i, cs, r, h, hh, h1, h2⟩⟩
structure SStore (σ : St) (b off : Nat) (us : List AV) (B : BL) (K : St → BL → Prop) : Prop where
  go : ∃ i cs, nth B i = some (b, cs) ∧ off + us.length ≤ cs.length ∧ K (σ.setBox b (setL cs off us)) (setN B i (b, setL cs off us))
theorem SStore.as {σ : St} {b off : Nat} {us : List AV} {B : BL} {K : St → BL → Prop} (i : Nat) {cs vs : List AV} (h : nth B i = some (b, cs)) (hl : off + us.length ≤ cs.length) (hv : setL cs off us = vs) (k : xSetN B i (b, vs) fun B' => K (σ.setBox b vs) B') : SStore σ b off us B K := ⟨by
  subst hv
  rw [xSetN_eq] at k
  exact ⟨i, cs, h, hl, k⟩⟩
def xSt (cs : List AV) (off : Nat) (us : List AV) (K : List AV → Prop) : Prop := if off + us.length ≤ cs.length then fL (fun x k => k x) (setL cs off us) K else False
theorem SStore.on {σ : St} {b off : Nat} {us : List AV} {B : BL} {K : St → BL → Prop} (i : Nat) {cs : List AV} (h : nth B i = some (b, cs)) (k : xSt cs off us fun vs => xSetN B i (b, vs) fun B' => K (σ.setBox b vs) B') : SStore σ b off us B K := by
  unfold xSt at k
  split at k
  · rename_i hl
    rw [fL_eq (fun _ _ => rfl)] at k
    exact .as i h hl rfl k
  · exact k.elim
structure SBox (kn : Nat) (σ : St) (B : BL) (v : AV) (K : AV → St → BL → Prop) : Prop where
  go : K (.vp v) σ B ∨ (kn = 2 ∧ ∀ b, σ.box b = none → K (.ptr b 0) (σ.setBox b v.cells) ((b, v.cells) :: B))
theorem SBox.f {kn : Nat} {σ : St} {B : BL} {v : AV} {K : AV → St → BL → Prop} (k : K (.vp v) σ B) : SBox kn σ B v K := ⟨.inl k⟩
theorem SBox.b {kn : Nat} {σ : St} {B : BL} {v : AV} {K : AV → St → BL → Prop} (hk : kn = 2) (k : xCells v fun cs => ∀ b, σ.box b = none → K (.ptr b 0) (σ.setBox b cs) ((b, cs) :: B)) : SBox kn σ B v K := ⟨.inr ⟨hk, by rw [xCells_eq] at k; exact k⟩⟩
def HB (hd : Option (Nat × List AV)) (s : St) : Prop := ∀ p, hd = some p → s.box p.1 = some p.2
structure SCall (P : Program) (w0 : Base) (f : FuncId) (as : List AV) (σ : St) (B : BL) (hd : Option (Nat × List AV)) (kn : Nat) (K : AV → St → BL → Prop) : Prop where
  go : Know σ B → (kn = 2 ∧ ∃ r, ExtW P w0 f as σ r ∧ K r σ B) ∨ Own P f ∧ ((∃ r, CallP P w0 f as r ∧ K r σ B) ∨ ((kn = 1 ∨ kn = 2) ∧ ∃ r, CallW P w0 f as σ (fun r' s => r' = r ∧ s = σ) ∧ K r σ B) ∨ (kn = 2 ∧ CallW P w0 f as σ (fun r s => ∃ B', Know s B' ∧ K r s B')) ∨ (kn = 4 ∧ CallW P w0 f as σ (fun r s => (∃ B', Know s B' ∧ K r s B') ∧ (HB hd σ → HB hd s))))
section
variable {P : Program} {w0 : Base} {f : FuncId} {as : List AV} {σ : St} {B : BL} {hd : Option (Nat × List AV)} {kn : Nat} {K : AV → St → BL → Prop}
theorem SCall.e {r : AV} (h : ExtW P w0 f as σ r) (hk : kn = 2) (k : K r σ B) : SCall P w0 f as σ B hd kn K := ⟨fun _ => .inl ⟨hk, r, h, k⟩⟩
theorem SCall.p {r : AV} (h : CallP P w0 f as r) [hf : OwnF P f] (k : K r σ B) : SCall P w0 f as σ B hd kn K := ⟨fun _ => .inr ⟨hf.h, .inl ⟨r, h, k⟩⟩⟩
theorem SCall.q {r : AV} (h : CallW P w0 f as σ (fun r' s => r' = r ∧ s = σ)) [hf : OwnF P f] (hk : kn = 1 ∨ kn = 2) (k : K r σ B) : SCall P w0 f as σ B hd kn K := ⟨fun _ => .inr ⟨hf.h, .inr (.inl ⟨hk, r, h, k⟩)⟩⟩
theorem SCall.w {R : AV → St → Prop} (h : CallW P w0 f as σ R) [hf : OwnF P f] (hk : kn = 2) (k : ∀ r s, R r s → Know σ B → ∃ B', Know s B' ∧ K r s B') : SCall P w0 f as σ B hd kn K := ⟨fun hB => .inr ⟨hf.h, .inr (.inr (.inl ⟨hk, h.mono fun r s hr => k r s hr hB⟩))⟩⟩
theorem SCall.m {α : Type} {g : α → AV} {R : α → Tok → St → Prop} {tk0 : Tok} (h : CallW P w0 f as σ (fun r s => ∃ x tk, r = g x ∧ R x tk s ∧ Moves σ tk0 s tk)) [hf : OwnF P f] (hk : kn = 2) (k : ∀ x tk s, R x tk s → Moves σ tk0 s tk → K (g x) s B) : SCall P w0 f as σ B hd kn K :=
  .w h hk fun r s ⟨x, tk, e, hr, hm⟩ hB => ⟨B, hB.moves hm, by subst e; exact k x tk s hr hm⟩
theorem SCall.r {sz : Nat} {xs : List AV} {σ0 : St} {tk0 : Tok} (h : CallW P w0 f as σ (fun r s => ∃ tk, r = .slc sz xs tk ∧ Moves σ0 tk0 s tk)) [hf : OwnF P f] (hk : kn = 2) (hs : ∀ i cs, σ.box i = some cs → σ0.box i = some cs) (k : ∀ tk s, Moves σ0 tk0 s tk → K (.slc sz xs tk) s B) : SCall P w0 f as σ B hd kn K :=
  .w h hk fun r s ⟨tk, e, hm⟩ hB => ⟨B, ⟨fun p hp => hm.box _ _ (hs _ _ (hB.has p hp)), hB.nd⟩, by subst e; exact k tk s hm⟩
end
theorem SCall.c {P : Program} {w0 : Base} {f : FuncId} {as : List AV} {σ : St} {B : BL} {hd : Option (Nat × List AV)} {kn : Nat} {K : AV → St → BL → Prop} {sz : Nat} {xs : List AV} {σ0 : St} {tk0 tk : Tok} (h : CallW P w0 f as σ (fun r s => ∃ tk', r = .slc sz xs tk' ∧ Moves σ tk s tk')) (hm : Moves σ0 tk0 σ tk) [hf : OwnF P f] (hk : kn = 2) (k : ∀ tk' s, Moves σ0 tk0 s tk' → K (.slc sz xs tk') s B) : SCall P w0 f as σ B hd kn K :=
  .w h hk fun r s ⟨tk, e, h⟩ hB => ⟨B, hB.moves h, by subst e; exact k tk s (hm.trans h)⟩
theorem SCall.wK {P : Program} {w0 : Base} {f : FuncId} {as : List AV} {σ : St} {B : BL} {hd : Option (Nat × List AV)} {kn : Nat} {K : AV → St → BL → Prop} {R : AV → St → Prop} (h : Know σ B → CallW P w0 f as σ R) [hf : OwnF P f] (hk : kn = 2) (k : ∀ r s, R r s → Know σ B → ∃ B', Know s B' ∧ K r s B') : SCall P w0 f as σ B hd kn K := ⟨fun hB => .inr ⟨hf.h, .inr (.inr (.inl ⟨hk, (h hB).mono fun r s hr => k r s hr hB⟩))⟩⟩
theorem SCall.b {P : Program} {w0 : Base} {f : FuncId} {as : List AV} {σ : St} {B : BL} {hd : Option (Nat × List AV)} {kn : Nat} {K : AV → St → BL → Prop} (i : Nat) {b : Nat} {cs ds : List AV} {r : AV} (h : σ.box b = some cs → CallW P w0 f as σ (fun r' s => r' = r ∧ s = σ.setBox b ds)) (hi : nth B i = some (b, cs)) [hf : OwnF P f] (hk : kn = 2) (k : xSetN B i (b, ds) fun B' => K r (σ.setBox b ds) B') : SCall P w0 f as σ B hd kn K :=
  .wK (fun hB => h (hB.get hi)) hk fun r s ⟨e1, e2⟩ hB => ⟨_, by subst e2; exact hB.set hi, by subst e1; subst e2; rw [xSetN_eq] at k; exact k⟩
theorem SCall.o {P : Program} {w0 : Base} {f : FuncId} {as : List AV} {σ : St} {B : BL} {hd : Option (Nat × List AV)} {kn : Nat} {K : AV → St → BL → Prop} (i : Nat) {b : Nat} {cs : List AV} {g : Tok → List AV} {tk : Tok} (h : σ.box b = some cs → CallW P w0 f as σ (fun r s => r = .tup [] ∧ ∃ tk', Moves (σ.setBox b (g tk')) tk s tk')) (hi : nth B i = some (b, cs)) [hf : OwnF P f] (hk : kn = 2) (k : ∀ tk' s, Moves (σ.setBox b (g tk')) tk s tk' → xSetN B i (b, g tk') fun B' => K (.tup []) s B') : SCall P w0 f as σ B hd kn K :=
  .wK (fun hB => h (hB.get hi)) hk fun r s ⟨e1, tk', hm⟩ hB => ⟨_, (hB.set hi).moves hm, by subst e1; have := k tk' s hm; rw [xSetN_eq] at this; exact this⟩
structure SYield (P : Program) (w0 : Base) (l : Nat) (as : List AV) (σ : St) (B : BL) (K : AV → St → BL → Prop) : Prop where
  go : Know σ B → RoundW P w0 l as σ (fun r s => ∃ B', Know s B' ∧ K r s B')
theorem SYield.w {P : Program} {w0 : Base} {l : Nat} {as : List AV} {σ : St} {B : BL} {K : AV → St → BL → Prop} {R : AV → St → Prop} (h : RoundW P w0 l as σ R) (k : ∀ r s, R r s → Know σ B → ∃ B', Know s B' ∧ K r s B') : SYield P w0 l as σ B K := ⟨fun hB => h.mono fun r s hr => k r s hr hB⟩
structure SMapSet (P : Program) (t : TypeId) (m : Nat) (x y : AV) (σ : St) (K : St → Prop) : Prop where
  go : ∃ key elem kd, TyM P t key elem kd ∧ keyD kd x = true ∧ ∃ es es', σ.obj m = some (.map es) ∧ mput x y es = some es' ∧ K (σ.setObj m (some (.map es')))
theorem SMapSet.on {P : Program} {t : TypeId} {m : Nat} {x y : AV} {σ : St} {K : St → Prop} {key elem : TypeId} {kd : TypeDesc} [hM : TyM P t key elem kd] (hk : keyD kd x = true) {es es' : List (AV × AV)} (h : σ.obj m = some (.map es)) (hp : mput x y es = some es') (k : K (σ.setObj m (some (.map es')))) : SMapSet P t m x y σ K := ⟨_, _, _, hM, hk, _, _, h, hp, k⟩
structure SMapGet (P : Program) (t : TypeId) (m : Nat) (x : AV) (ok : Bool) (σ : St) (K : AV → Prop) : Prop where
  go : ∃ key elem kd, TyM P t key elem kd ∧ keyD kd x = true ∧ ∃ es r, σ.obj m = some (.map es) ∧ mfind x es 0 = some r ∧ K (lookR ok r)
theorem SMapGet.y {P : Program} {t : TypeId} {m : Nat} {x : AV} {σ : St} {K : AV → Prop} {key elem : TypeId} {kd : TypeDesc} [hM : TyM P t key elem kd] (hk : keyD kd x = true) {es : List (AV × AV)} {i : Nat} {y : AV} (h : σ.obj m = some (.map es)) (hf : mfind x es 0 = some (some (i, y))) (k : K (.tup [y, .bool true])) : SMapGet P t m x true σ K := ⟨_, _, _, hM, hk, _, _, h, hf, k⟩
theorem SMapGet.n {P : Program} {t : TypeId} {m : Nat} {x : AV} {σ : St} {K : AV → Prop} {key elem : TypeId} {kd : TypeDesc} [hM : TyM P t key elem kd] (hk : keyD kd x = true) {es : List (AV × AV)} (h : σ.obj m = some (.map es)) (hf : mfind x es 0 = some none) (k : K (.tup [.und, .bool false])) : SMapGet P t m x true σ K := ⟨_, _, _, hM, hk, _, _, h, hf, k⟩
theorem SMapGet.v {P : Program} {t : TypeId} {m : Nat} {x : AV} {σ : St} {K : AV → Prop} {key elem : TypeId} {kd : TypeDesc} [hM : TyM P t key elem kd] (hk : keyD kd x = true) {es : List (AV × AV)} {i : Nat} {y : AV} (h : σ.obj m = some (.map es)) (hf : mfind x es 0 = some (some (i, y))) (k : K y) : SMapGet P t m x false σ K := ⟨_, _, _, hM, hk, _, _, h, hf, k⟩
theorem Know.obj {σ : St} {B : BL} (h : Know σ B) (m : Nat) (q : Option Ob) : Know (σ.setObj m q) B := ⟨h.has, h.nd⟩
structure SApp (P : Program) (w0 : Base) (a b : TypeId) (u v : AV) (σ : St) (B : BL) (K : AV → St → BL → Prop) : Prop where
  go : Know σ B → ∀ (o : Oper) (E : AEnv) (s x : Operand), o.op = .call { callee := .builtin .append, args := #[s, x], argTypes := #[a, b] } → aeval E s = u → aeval E x = v → OpW P w0 o E σ (fun r s => ∃ B', Know s B' ∧ K r s B')
section
variable {P : Program} {w0 : Base} {a b sz bytes : TypeId} {u v : AV} {σ : St} {B : BL} {K : AV → St → BL → Prop}
theorem SApp.g {xs ys : List AV} {tk : Tok} (hb : aBase sz u = some (xs, tk)) (hy : aSrc sz v = some ys) [hi : AppI P a b sz bytes] (hr : Room σ tk) (hf : (xs.length + ys.length) * bytes ≤ 140737488355328)
    (k : ∀ tk' σ', Moves σ tk σ' tk' → K (.slc sz (xs ++ ys) tk') σ' B) : SApp P w0 a b u v σ B K := ⟨fun hB o E s x ho hs hx => by
  subst hs; subst hx
  obtain ⟨e, inf, z, T, rfl, rfl, hpos⟩ := hi.h
  have hfit : AppFits inf (xs.length + ys.length) := ⟨hf, by
    have : xs.length + ys.length ≤ (xs.length + ys.length) * inf.bytes := Nat.le_mul_of_pos_right _ hpos
    simp only [maxLen]; omega⟩
  rcases hr with rfl | ⟨q, rfl, hq⟩
  · by_cases h0 : ys = []
    · subst h0
      refine (ok_append0 T s x ho hb hy).w σ |>.mono ?_
      rintro r s' ⟨rfl, rfl⟩
      have := k .full s' (Moves.full s')
      rw [List.append_nil] at this
      exact ⟨B, hB, this⟩
    · exact w_append T s x ho hb hy hfit (.inl ⟨rfl, h0⟩) fun p hp => ⟨B, hB.moves (spend_moves (.inl rfl) hp), k _ _ (spend_moves (.inl rfl) hp)⟩
  · exact w_append T s x ho hb hy hfit (.inr ⟨q, rfl, hq⟩) fun p hp => ⟨B, hB.moves (spend_moves (.inr ⟨q, rfl, hq⟩) hp), k _ _ (spend_moves (.inr ⟨q, rfl, hq⟩) hp)⟩⟩
theorem SApp.c {xs ys : List AV} {tk tk0 : Tok} {σ0 : St} (hb : aBase sz u = some (xs, tk)) (hy : aSrc sz v = some ys) [hi : AppI P a b sz bytes] (hm : Moves σ0 tk0 σ tk) (hf : (xs.length + ys.length) * bytes ≤ 140737488355328)
    (k : ∀ tk' σ', Moves σ0 tk0 σ' tk' → K (.slc sz (xs ++ ys) tk') σ' B) : SApp P w0 a b u v σ B K :=
  .g hb hy hm.room hf fun tk' σ' h => k tk' σ' (hm.trans h)
theorem SApp.n {ys : List AV} (hu : u = .nils) (hy : aSrc sz v = some ys) [hi : AppI P a b sz bytes] (hne : ys ≠ []) (hf : ys.length * bytes ≤ 140737488355328)
    (k : ∀ b' cap, σ.box b' = none → ys.length ≤ cap → K (.msl b' 0 ys.length cap) (σ.setBox b' (ys.flatMap AV.cells ++ List.replicate ((cap - ys.length) * sz) .und)) ((b', ys.flatMap AV.cells ++ List.replicate ((cap - ys.length) * sz) .und) :: B)) : SApp P w0 a b u v σ B K := ⟨fun hB o E s x ho hs hx => by
  subst hx
  obtain ⟨e, inf, z, T, rfl, rfl, hpos⟩ := hi.h
  have hfit : AppFits inf ys.length := ⟨hf, by
    have : ys.length ≤ ys.length * inf.bytes := Nat.le_mul_of_pos_right _ hpos
    simp only [maxLen]; omega⟩
  exact w_appendN T s x ho (hs.trans hu) hy hne hfit fun b' cap h1 h2 => ⟨_, hB.new h1, k b' cap h1 h2⟩⟩
theorem SApp.e {ys : List AV} (hu : u = .slc sz [] .full) (hy : aSrc sz v = some ys) [hi : AppI P a b sz bytes] (hne : ys ≠ []) (hf : ys.length * bytes ≤ 140737488355328)
    (k : ∀ b' cap, σ.box b' = none → ys.length ≤ cap → K (.msl b' 0 ys.length cap) (σ.setBox b' (ys.flatMap AV.cells ++ List.replicate ((cap - ys.length) * sz) .und)) ((b', ys.flatMap AV.cells ++ List.replicate ((cap - ys.length) * sz) .und) :: B)) : SApp P w0 a b u v σ B K := ⟨fun hB o E s x ho hs hx => by
  subst hx
  obtain ⟨e, inf, z, T, rfl, rfl, hpos⟩ := hi.h
  have hfit : AppFits inf ys.length := ⟨hf, by
    have : ys.length ≤ ys.length * inf.bytes := Nat.le_mul_of_pos_right _ hpos
    simp only [maxLen]; omega⟩
  exact w_appendE T s x ho (hs.trans hu) hy hne hfit fun b' cap h1 h2 => ⟨_, hB.new h1, k b' cap h1 h2⟩⟩
theorem SApp.z {cs : List AV} {bx n cap kn : Nat} {k0 : IntKind} (j : Nat) (hu : u = .msl bx 0 n cap) (hb : nth B j = some (bx, cs)) (hcl : cap * sz ≤ cs.length) (hn : n ≤ cap) (hv : v = .int .i64 kn) (hgt : cap < n + kn) [hi : AppI P a a sz bytes] [hu2 : TyU P b (.int k0)] (h0 : 0 < sz) (hf : (n + kn) * bytes ≤ 140737488355328)
    (k2 : ∀ b' cap', σ.box b' = none → n + kn ≤ cap' → K (.msl b' 0 (n + kn) cap') (σ.setBox b' (cs.take (n * sz) ++ List.replicate ((cap' - n) * sz) .und)) ((b', cs.take (n * sz) ++ List.replicate ((cap' - n) * sz) .und) :: B)) : SApp P w0 a b u v σ B K := ⟨fun hB o E s x ho hs hx => by
  obtain ⟨e, inf, z, T, rfl, rfl, hpos⟩ := hi.h
  have hfit : AppFits inf (n + kn) := ⟨hf, by
    have : n + kn ≤ (n + kn) * inf.bytes := Nat.le_mul_of_pos_right _ hpos
    simp only [maxLen]; omega⟩
  exact w_appendZ T hu2.h s x ho (hs.trans hu) (hB.get hb) hcl hn (hx.trans hv) hgt hfit h0 hpos fun b' cap' h1 h2 => ⟨_, hB.new h1, k2 b' cap' h1 h2⟩⟩
theorem SApp.m {ys cs : List AV} {bx n cap : Nat} (j : Nat) (hu : u = .msl bx 0 n cap) (hb : nth B j = some (bx, cs)) (hcl : cap * sz ≤ cs.length) (hn : n ≤ cap) (hy : aSrc sz v = some ys) [hi : AppI P a b sz bytes] (hf : (n + ys.length) * bytes ≤ 140737488355328)
    (k1 : n + ys.length ≤ cap → K (.msl bx 0 (n + ys.length) cap) (σ.setBox bx (setL cs (n * sz) (ys.flatMap AV.cells))) (setN B j (bx, setL cs (n * sz) (ys.flatMap AV.cells))))
    (k2 : ∀ b' cap', σ.box b' = none → n + ys.length ≤ cap' → K (.msl b' 0 (n + ys.length) cap') (σ.setBox b' (cs.take (n * sz) ++ ys.flatMap AV.cells ++ List.replicate ((cap' - (n + ys.length)) * sz) .und)) ((b', cs.take (n * sz) ++ ys.flatMap AV.cells ++ List.replicate ((cap' - (n + ys.length)) * sz) .und) :: B)) : SApp P w0 a b u v σ B K := ⟨fun hB o E s x ho hs hx => by
  subst hx
  obtain ⟨e, inf, z, T, rfl, rfl, hpos⟩ := hi.h
  have hfit : AppFits inf (n + ys.length) := ⟨hf, by
    have : n + ys.length ≤ (n + ys.length) * inf.bytes := Nat.le_mul_of_pos_right _ hpos
    simp only [maxLen]; omega⟩
  exact w_appendM T s x ho (hs.trans hu) (hB.get hb) hcl hn hy hfit (fun h => ⟨_, hB.set hb, k1 h⟩) fun b' cap' h1 h2 => ⟨_, hB.new h1, k2 b' cap' h1 h2⟩⟩
end
structure SEqA (P : Program) (t : TypeId) (op : BinOp) (xs ys : List AV) (K : AV → Prop) : Prop where
  go : ∃ b r, FlatEq P t ∧ (∀ fs : List Field, P.underlying t = some (.struct fs.toArray) → flatFrom P 0 fs xs = true) ∧ eqCells xs ys = some b ∧ aEqOp op b = some r ∧ K r
theorem SEqA.on {P : Program} {t : TypeId} {op : BinOp} {xs ys : List AV} {K : AV → Prop} {b : Bool} {r : AV} [hT : FlatEq P t] (hf : ∀ fs : List Field, P.underlying t = some (.struct fs.toArray) → flatFrom P 0 fs xs = true) (hb : eqCells xs ys = some b) (hr : aEqOp op b = some r) (k : K r) : SEqA P t op xs ys K := ⟨b, r, hT, hf, hb, hr, k⟩
structure SBoth (p q : Prop) : Prop where
  t : p
  f : q
structure SCopy (P : Program) (w0 : Base) (T : TT) (t ty : TypeId) (u v : AV) (σ : St) (B : BL) (K : AV → St → BL → Prop) : Prop where
  go : T.ok P → Know σ B → ∀ (o : Oper) (E : AEnv) (d s : Operand), o.op = .call { callee := .builtin .copy, args := #[d, s], argTypes := #[t, ty] } → aeval E d = u → aeval E s = v → OpW P w0 o E σ (fun r s => ∃ B', Know s B' ∧ K r s B')
def esz : TK → Nat
  | .slc _ sz _ => sz
  | _ => 0
def isSlcK : TK → Bool
  | .slc .. => true
  | _ => false
theorem slcK_ok {P : Program} {T : TT} (hT : T.ok P) {t : TypeId} (h : isSlcK (T.look t).k = true) : ∃ e, P.underlying t = some (.slice e) ∧ (P.info? e).map (·.size) = some (esz (T.look t).k) := by
  have ht := TT.ok_look hT t
  cases hk : (T.look t).k <;> rw [hk] at h <;> simp only [isSlcK, Bool.false_eq_true] at h
  rename_i e sz u8
  rw [TI.ok, hk] at ht
  exact ⟨e, ht.1.1.h, ht.2.1.h⟩
section
variable {P : Program} {w0 : Base} {T : TT} {t ty : TypeId} {u v : AV} {σ : St} {B : BL} {K : AV → St → BL → Prop}
theorem SCopy.m {b off n cap sz : Nat} {cs ys : List AV} (j : Nat) (hk : isSlcK (T.look t).k = true) (hz : esz (T.look t).k = sz) (hu : u = .msl b off n cap) (hb : nth B j = some (b, cs)) (hl : off + n * sz ≤ cs.length) (hy : aSrc sz v = some ys) (hn : ys.length ≤ n)
    (k : ∀ vs, setL cs off (ys.flatMap AV.cells) = vs → xSetN B j (b, vs) fun B' => K (.int .i64 ys.length) (σ.setBox b vs) B') : SCopy P w0 T t ty u v σ B K := ⟨fun hT hB o E d s ho hd hs => by
  obtain ⟨e, h1, h2⟩ := slcK_ok hT hk
  subst hz; subst hu; subst hs
  refine w_copyM d s ho h1 h2 hd (hB.get hb) hl hy hn ?_
  have := k _ rfl
  rw [xSetN_eq] at this
  exact ⟨_, hB.set hb, this⟩⟩
theorem SCopy.o {b off n cap b2 off2 n2 cap2 sz : Nat} {cs ds us : List AV} (j j2 : Nat) (hk : isSlcK (T.look t).k = true) (hz : esz (T.look t).k = sz) (hu : u = .msl b off n cap) (hb : nth B j = some (b, cs)) (hl : off + n * sz ≤ cs.length) {k : Nat} (hv : v = .msl b2 off2 n2 cap2) (hb2 : nth B j2 = some (b2, ds)) (hn : min n2 n = k) (hus : (ds.drop off2).take (k * sz) = us) (hul : us.length = k * sz) (h1 : us.all AV.one = true)
    (q : ∀ vs, setL cs off us = vs → xSetN B j (b, vs) fun B' => K (.int .i64 k) (σ.setBox b vs) B') : SCopy P w0 T t ty u v σ B K := ⟨fun hT hB o E d s ho hd hs => by
  obtain ⟨e, h3, h4⟩ := slcK_ok hT hk
  subst hz; subst hu; subst hv
  refine w_copyO d s ho h3 h4 hd (hB.get hb) hl hs (hB.get hb2) hn hus hul h1 ?_
  have := q _ rfl
  rw [xSetN_eq] at this
  exact ⟨_, hB.set hb, this⟩⟩
end
def TK.plain : TK → Bool
  | .other => false
  | .ifc => false
  | _ => true
theorem aZero_info {P : Program} {t : TypeId} {cs : List AV} (h : aZero P t = some cs) : ∃ i z, P.info? t = some i ∧ i.zero = some z := by
  unfold aZero at h
  split at h
  · rename_i z hz
    obtain ⟨i, h1, h2⟩ := Option.bind_eq_some_iff.1 hz
    exact ⟨i, z, h1, h2⟩
  · cases h
theorem TI.plain_ok {P : Program} {t : Nat} {i : TI} (h : i.ok P t) (hp : i.k.plain = true) : (∃ d, P.underlying t = some d ∧ ifaceD d = false) ∧ ∃ i z, P.info? t = some i ∧ i.zero = some z := by
  have h1 : i.k ≠ .other := by intro e; rw [e] at hp; cases hp
  have h2 : i.k ≠ .ifc := by intro e; rw [e] at hp; cases hp
  refine ⟨(TI.noI h h1 h2).h, ?_⟩
  cases hk : i.k.zero with
  | none => cases hkk : i.k <;> rw [hkk] at hk h1 <;> first | exact absurd rfl h1 | cases hk
  | some z => exact aZero_info (TI.zero_ok h hk)
def assertV (u : TypeId) (ok : Bool) : AV → Option AV
  | .ifc t v => if t = u then some (if ok = true then .tup [v, .bool true] else v) else if ok = true then some (.tup [.und, .bool false]) else none
  | .nilifc => if ok = true then some (.tup [.und, .bool false]) else none
  | _ => none
theorem ok_typeAssert {P : Program} {E : AEnv} {o : Oper} (x : Operand) (xt u : TypeId) (ok : Bool) (ho : o.op = .typeAssert x xt u ok) (hd : ∃ d, P.underlying u = some d ∧ ifaceD d = false) (hz : ∃ i z, P.info? u = some i ∧ i.zero = some z) {r : AV} (h : assertV u ok (aeval E x) = some r) : OpOk P o E r := .plain fun G w a hE => by
  have hx := hE.get x (by simp [ho, Op.operands, Call.operands])
  have he : execOp a.eval o = (Instr.typeAssert (a.eval x) xt u ok >>= fun v => pure (.value v)) := by simp only [execOp, ho]
  rw [he]
  generalize aeval E x = X at *
  generalize a.eval x = v at *
  obtain ⟨d, hd, hi⟩ := hd
  obtain ⟨i, z, hi1, hi2⟩ := hz
  have hzr := run_zero hi1 hi2 w
  cases hx <;> simp only [assertV, reduceCtorEq] at h
  · rename_i t x v hr
    split at h
    · rename_i e
      subst e
      cases h
      cases ok with
      | true => exact ⟨.tuple #[v, .bool true], by cases d <;> simp [ifaceD] at hi <;> simp [Instr.typeAssert, run_underlying hd], .tup (vs := [v, .bool true]) (.cons hr (.cons (.bool true) .nil))⟩
      | false => exact ⟨v, by cases d <;> simp [ifaceD] at hi <;> simp [Instr.typeAssert, run_underlying hd], hr⟩
    · rename_i hne
      split at h
      · rename_i hok
        subst hok
        cases h
        exact ⟨.tuple #[z, .bool false], by cases d <;> simp [ifaceD] at hi <;> simp [Instr.typeAssert, run_underlying hd, hne, hzr], .tup (vs := [z, .bool false]) (.cons (.und z) (.cons (.bool false) .nil))⟩
      · cases h
  · split at h
    · rename_i hok
      subst hok
      cases h
      exact ⟨.tuple #[z, .bool false], by cases d <;> simp [ifaceD] at hi <;> simp [Instr.typeAssert, run_underlying hd, hzr], .tup (vs := [z, .bool false]) (.cons (.und z) (.cons (.bool false) .nil))⟩
    · cases h
def TI.cells (i : TI) : Nat :=
  match i.k with
  | .struct .. => i.sz
  | .arr .. => i.sz
  | _ => 1
theorem TI.cells_ok {P : Program} {t : Nat} {i : TI} (h : i.ok P t) (h0 : i.k ≠ .other) : TyS P t i.cells := by
  rcases TI.scal h with h1 | ⟨fs, z, h1⟩ | ⟨n, e, sz, ag, z, h1⟩ | ⟨_, hs⟩
  · exact absurd h1 h0
  · rw [TI.ok, h1] at h; rw [TI.cells, h1]; exact h.1.2
  · rw [TI.ok, h1] at h; rw [TI.cells, h1]; exact h.1.2
  · unfold TI.cells
    split
    · rename_i h1; rw [TI.ok, h1] at h; exact h.1.2
    · rename_i h1; rw [TI.ok, h1] at h; exact h.1.2
    · exact hs
structure SNext (m : Nat) (σ : St) (K : AV → St → Prop) : Prop where
  go : ∃ s i, σ.obj m = some (.str s i) ∧ ((i < s.length ∧ K (.tup [.bool true, .int .i64 i, .int .i32 (Utf8.decode ⟨s.toArray⟩ i).1]) (σ.setObj m (some (.str s (i + (Utf8.decode ⟨s.toArray⟩ i).2))))) ∨ (s.length ≤ i ∧ K (.tup [.bool false]) σ))
theorem SNext.y {m i : Nat} {s : List UInt8} {σ : St} {K : AV → St → Prop} (hb : σ.obj m = some (.str s i)) (hi : i < s.length) (h : K (.tup [.bool true, .int .i64 i, .int .i32 (Utf8.decode ⟨s.toArray⟩ i).1]) (σ.setObj m (some (.str s (i + (Utf8.decode ⟨s.toArray⟩ i).2))))) : SNext m σ K := ⟨s, i, hb, .inl ⟨hi, h⟩⟩
theorem SNext.n {m i : Nat} {s : List UInt8} {σ : St} {K : AV → St → Prop} (hb : σ.obj m = some (.str s i)) (hi : s.length ≤ i) (h : K (.tup [.bool false]) σ) : SNext m σ K := ⟨s, i, hb, .inr ⟨hi, h⟩⟩
structure SOper (P : Program) (w0 : Base) (T : TT) (op : Op) (L : SL) (σ : St) (B : BL) (K : AV → St → BL → Prop) : Prop where
  go : T.ok P → Know σ B → ∀ o : Oper, o.op = op → OpW P w0 o (env L) σ (fun r s => ∃ B', Know s B' ∧ K r s B')
structure STrem (a b : Int) (K : Int → Prop) : Prop where
  go : b ≠ 0 ∧ ∀ m, a.tmod b = m → K m
structure SEqR (P : Program) (T : TT) (op : Op) (L : SL) (K : AV → Prop) : Prop where
  go : T.ok P → ∃ r, (∀ o : Oper, o.op = op → OpOk P o (env L) r) ∧ K r
def bigRem : BinOp → Int → Bool
  | .rem, b => b == 1000 || b == 1000000
  | _, _ => false
def xOper (P : Program) (w0 : Base) (T : TT) (hd : Option (Nat × List AV)) (kn : Nat) (L : SL) (σ : St) (B : BL) (stop : Prop) (K : AV → St → BL → Prop) (op : Op) : Prop :=
  match op with
  | .load t x => match ev L x with
    | .vp y => xCells y fun cs => xLoad T t cs 0 stop fun r => K r σ B
    | .ptr b off => if kn = 1 ∨ kn = 2 then SLoad P T t b off B stop fun r => K r σ B else if kn = 3 then SLoadH P T t b off B hd stop fun r => K r σ B else stop
    | _ => stop
  | .alloc t => if kn = 2 ∨ kn = 4 then match (T.look t).k with
      | .slc _ sz _ => ∃ e : Bool, ∀ b, σ.box b = none → bif e then K (.ptr b 0) (σ.setBox b [.slc sz [] .full]) ((b, [.slc sz [] .full]) :: B) else K (.ptr b 0) (σ.setBox b [.nils]) ((b, [.nils]) :: B)
      | .struct _ [.nilp, .nils] => if kn = 2 then (0 < t ∧ t < 4096) ∧ ∀ b, tagOf b = some t → σ.box b = none → K (.ptr b 0) (σ.setBox b [.nilp, .nils]) ((b, [.nilp, .nils]) :: B) else stop
      | k => match k.zero with
        | some z => ∀ b, σ.box b = none → K (.ptr b 0) (σ.setBox b z) ((b, z) :: B)
        | none => stop
    else stop
  | .box t x => xV L x fun v => if v.flat = true then SBox kn σ B v K else stop
  | .store t x y => match ev L x, (T.look t).k with
    | _, .other => stop
    | .ptr b off, _ => if kn = 2 then xV L y fun v => if v.flat = true then xCells v fun us => if us.length = (T.look t).cells then SStore σ b off us B (fun s B' => K .und s B') else stop else stop else stop
    | _, _ => stop
  | .call ⟨.value x, args, _⟩ => match ev L x with
    | .fn (.func f) first cap => xVs L args.toList fun vs => fL (fun x k => k x) (first ++ vs ++ cap) fun as => SCall P w0 f as σ B hd kn K
    | .fn (.yield l) [] [] => if kn = 2 then xVs L args.toList fun as => SYield P w0 l as σ B K else stop
    | _ => stop
  | .makeMap t none => if kn = 2 then ∀ m, σ.obj m = none → K (.mp m) (σ.setObj m (some (.map []))) B else stop
  | .range t x => match (T.look t).k, ev L x with
    | .str, .str s => if kn = 2 then ∀ m, σ.obj m = none → K (.it m) (σ.setObj m (some (.str s 0))) B else stop
    | _, _ => stop
  | .next x true => match ev L x with
    | .it m => if kn = 2 then SNext m σ fun r s => K r s B else stop
    | _ => stop
  | .insert t m ix y => match ev L m with
    | .mp b => if kn = 2 then xV L ix fun u => xV L y fun v => SMapSet P t b u v σ fun s => K .und s B else stop
    | _ => stop
  | .mapUpdate t m ix y => match ev L m with
    | .mp b => if kn = 2 then xV L ix fun u => xV L y fun v => SMapSet P t b u v σ fun s => K .und s B else stop
    | _ => stop
  | .lookup t m ix ok => match ev L m with
    | .mp b => if kn = 2 then xV L ix fun u => SMapGet P t b u ok σ fun r => K r σ B else stop
    | _ => stop
  | .call ⟨.builtin .append, args, ts⟩ => match args.toList, ts.toList with
    | [s, x], [a, b] => if kn = 2 then xV L s fun u => xV L x fun v => SApp P w0 a b u v σ B K else stop
    | _, _ => stop
  | .call ⟨.builtin .clear, args, ts⟩ => match args.toList, ts.toList with
    | [x], [t] => match (T.look t).k, ev L x with
      | .slc e _ _, .msl b off n _ => if kn = 2 then match (T.look e).k.zero with
        | some z => SStore σ b off (List.replicate (n * z.length) .und) B fun s B' => K (.tup []) s B'
        | none => stop
        else stop
      | _, _ => stop
    | _, _ => stop
  | .call ⟨.builtin .copy, args, ts⟩ => match args.toList, ts.toList with
    | [d, x], [a, b] => if kn = 2 then xV L d fun u => xV L x fun v => SCopy P w0 T a b u v σ B K else stop
    | _, _ => stop
  | .call ⟨.builtin .cap, args, ts⟩ => match args.toList, ts.toList with
    | [x], [t] => match (T.look t).k, ev L x with
      | .slc .., .msl _ _ _ cap => K (.int .i64 cap) σ B
      | _, _ => stop
    | _, _ => stop
  | .call ⟨.builtin .unsafeSliceData, args, ts⟩ => match args.toList with
    | [x] => match ev L x with
      | .nils => K .nilp σ B
      | .msl b off _ cap => cap ≠ 0 ∧ K (.ptr b off) σ B
      | _ => stop
    | _ => stop
  | .call ⟨.builtin .unsafeString, args, ts⟩ => if kn = 2 then SOper P w0 T (.call ⟨.builtin .unsafeString, args, ts⟩) L σ B K else stop
  | .convert s d x => match ev L x with
    | .ptr _ _ => if kn = 2 then SOper P w0 T (.convert s d x) L σ B K else stop
    | _ => xPure T L stop (fun r => K r σ B) (.convert s d x)
  | .slice t x lo hi none => match (T.look t).k, ev L x with
    | .slc _ sz _, .msl b off n cap => xBnd L lo 0 stop fun p => xBnd L hi n stop fun q => (0 ≤ p ∧ p ≤ q ∧ q ≤ cap) ∧ ∃ off', (if cap = p.toNat then off else off + p.toNat * sz) = off' ∧ ∃ n', q.toNat - p.toNat = n' ∧ ∃ c', cap - p.toNat = c' ∧ K (.msl b off' n' c') σ B
    | _, _ => xPure T L stop (fun r => K r σ B) (.slice t x lo hi none)
  | .binOp op t x y yt => match (T.look t).k, isConstB y, ev L y, ev L x with
    | .slc .., true, .nils, .slc _ [] _ => match op with
      | .eql => if kn = 2 then SBoth (K (.bool true) σ B) (K (.bool false) σ B) else stop
      | .neq => if kn = 2 then SBoth (K (.bool true) σ B) (K (.bool false) σ B) else stop
      | _ => stop
    | .slc .., true, .nils, .msl .. => match op with
      | .eql => if kn = 2 then K (.bool false) σ B else stop
      | .neq => if kn = 2 then K (.bool true) σ B else stop
      | _ => stop
    | .struct .., _, .agg ys, .agg xs => SEqA P t op xs ys fun r => K r σ B
    | .arr .., _, .agg ys, .agg xs => SEqR P T (.binOp op t x y yt) L fun r => K r σ B
    | .ptr, _, .ptr _ _, .ptr _ _ => if kn = 2 then SOper P w0 T (.binOp op t x y yt) L σ B K else stop
    | .int .i64, true, .int .i64 b, .int .i64 a => bif bigRem op b then STrem a b fun m => K (.int .i64 m) σ B else xPure T L stop (fun r => K r σ B) (.binOp op t x y yt)
    | _, _, _, _ => xPure T L stop (fun r => K r σ B) (.binOp op t x y yt)
  | .indexAddr t x j => match (T.look t).k, ev L x, ev L j with
    | .slc _ sz _, .slc sz' xs _, .int _ n => if sz' = sz ∧ 0 < sz then ∃ v, (0 ≤ n ∧ xs[n.toNat]? = some v) ∧ K (.vp v) σ B else stop
    | .slc _ sz _, .msl b off m _, .int _ n => (0 ≤ n ∧ n < m) ∧ K (.ptr b (off + n.toNat * sz)) σ B
    | .arr len _ sz _ _, .ptr b off, .int _ n => (0 ≤ n ∧ n < len) ∧ K (.ptr b (off + n.toNat * sz)) σ B
    | .arr len _ sz false _, .vp (.agg cs), .int _ n => (0 ≤ n ∧ n < len) ∧ ∃ c, cs[n.toNat * sz]? = some c ∧ K (.vp c) σ B
    | .arr len _ sz true _, .vp (.agg cs), .int _ n => (0 ≤ n ∧ n < len) ∧ ∃ us, (cs.drop (n.toNat * sz)).take sz = us ∧ K (.vp (.agg us)) σ B
    | _, _, _ => stop
  | .index t x j => match (T.look t).k, ev L x, ev L j with
    | .str, .str l, .int _ n => ∃ b, (0 ≤ n ∧ l[n.toNat]? = some b) ∧ K (.int .u8 b.toNat) σ B
    | .arr len _ sz false _, .agg cs, .int _ n => (0 ≤ n ∧ n < len) ∧ ∃ c, cs[n.toNat * sz]? = some c ∧ K c σ B
    | .arr len _ sz true _, .agg cs, .int _ n => (0 ≤ n ∧ n < len) ∧ ∃ us, (cs.drop (n.toNat * sz)).take sz = us ∧ K (.agg us) σ B
    | _, _, _ => stop
  | .typeAssert x _ u ok => if (T.look u).k.plain = true then match ev L x with
      | .ifc t v => if t = u then bif ok then K (.tup [v, .bool true]) σ B else K v σ B else bif ok then K (.tup [.und, .bool false]) σ B else stop
      | .nilifc => bif ok then K (.tup [.und, .bool false]) σ B else stop
      | _ => stop
    else stop
  | .pick c x y => match ev L c with
    | .bool b => xV L x fun u => xV L y fun v => SPick b u v fun r => K r σ B
    | _ => stop
  | op => xPure T L stop (fun r => K r σ B) op
theorem stepD_pure {P : Program} {w0 : Base} {o : Oper} {L : SL} {σ : St} {kn : Nat} {H : St → Prop} {B : BL} {K : AV → St → BL → Prop} {r : AV} (hB : Know σ B) (h : Yields P (env L) o.op r) (k : K r σ B) : StepD P w0 o (env L) σ kn H (fun r s => ∃ B', Know s B' ∧ K r s B') :=
  .pure r (aop_ok h.h).pure ⟨B, hB, k⟩
theorem xOper_ok {P : Program} {w0 : Base} {T : TT} (hT : T.ok P) {hd : Option (Nat × List AV)} {kn : Nat} {L : SL} {σ : St} {B : BL} {stop : Prop} {K : AV → St → BL → Prop} {o : Oper} {op : Op} {H : St → Prop} (hB : Know σ B) (ho : o.op = op) (hH : ∀ s, H s ↔ HB hd s) (h : xOper P w0 T hd kn L σ B stop K op) :
    stop ∨ StepD P w0 o (env L) σ kn H (fun r s => ∃ B', Know s B' ∧ K r s B') := by
  unfold xOper at h
  split at h
  · rename_i t x
    split at h
    · rename_i y hy
      rw [ev_eq] at hy
      rw [xCells_eq] at h
      rcases xLoad_ok hT h with h | ⟨r, h1, h2⟩
      · exact .inl h
      · exact .inr (stepD_pure hB ⟨by rw [ho]; simp only [aop, aLoadVp, hy]; exact h1⟩ h2)
    · rename_i b off hx
      rw [ev_eq] at hx
      split at h
      · rename_i hk
        rcases h.go hT with h | ⟨i, cs, r, h1, h2, h3⟩
        · exact .inl h
        · exact .inr (.quiet r hk (w_load t x ho hx (hB.get h1) h2) ⟨B, hB, h3⟩)
      · split at h
        · rename_i hk
          rcases h.go hT with h | ⟨i, cs, r, h1, h0, h2, h3⟩
          · exact .inl h
          · exact .inr (.held r hk ((hH σ).2 fun p hp => by rw [h0] at hp; cases hp; exact hB.get h1) (fun s hs => w_load t x ho hx ((hH s).1 hs _ h0) h2) ⟨B, hB, h3⟩)
        · exact .inl h
    · exact .inl h
  · rename_i t
    have ht := TT.ok_look hT t
    split at h
    · rename_i hk
      have loud : ∀ {K0 : AV → St → Prop}, (∀ r s, K0 r s → ∃ b z, σ.box b = none ∧ s = σ.setBox b z) → OpW P w0 o (env L) σ K0 → StepD P w0 o (env L) σ kn H K0 := fun h0 hw => by
        rcases hk with hk | hk
        · exact .loud hk hw
        · exact .keeps hk (hw.mono fun r s q => ⟨q, fun hs => (hH s).2 fun p hp => by
            obtain ⟨b, z, hb, rfl⟩ := h0 r s q
            have := (hH σ).1 hs p hp
            rw [setBox_ne (by rintro rfl; rw [hb] at this; cases this)]
            exact this⟩)
      have wrap : ∀ {z : List AV}, OpW P w0 o (env L) σ (fun r s => ∃ b, σ.box b = none ∧ s = σ.setBox b z ∧ r = .ptr b 0) → (∀ b, σ.box b = none → ∃ B', Know (σ.setBox b z) B' ∧ K (.ptr b 0) (σ.setBox b z) B') → StepD P w0 o (env L) σ kn H (fun r s => ∃ B', Know s B' ∧ K r s B') := fun hw hk2 => by
        refine (loud (K0 := fun r s => ∃ b, σ.box b = none ∧ s = σ.setBox b _ ∧ r = .ptr b 0) (fun r s ⟨b, h1, h2, _⟩ => ⟨b, _, h1, h2⟩) hw).mono ?_
        rintro r s ⟨b, h1, rfl, rfl⟩
        exact hk2 b h1
      split at h
      · rename_i e sz u8 hkk
        obtain ⟨ee, h⟩ := h
        have hs := ht
        rw [TI.ok, hkk] at hs
        have hz := hs.1.2.z
        cases ee with
        | false => exact .inr (wrap (w_alloc t ho hz fun b hb => ⟨b, hb, rfl, rfl⟩) fun b hb => ⟨_, hB.new hb, h b hb⟩)
        | true =>
          refine .inr (wrap (z := [.slc sz [] .full]) ⟨fun G w a hI hE next Qx hn => (w_alloc (K := fun r s => ∃ b, σ.box b = none ∧ r = .ptr b 0 ∧ s = σ.setBox b [.nils]) t ho hz fun b hb => ⟨b, hb, rfl, rfl⟩).go G w a hI hE next Qx ?_⟩ fun b hb => ⟨_, hB.new hb, h b hb⟩)
          rintro v w' G' r s ⟨b, hb, rfl, rfl⟩ hI' e hr
          refine hn v w' G' (.ptr b 0) (σ.setBox b [.slc sz [] .full]) ⟨b, hb, rfl, rfl⟩ ?_ e hr
          have := hI'.weakBox (b := b) (cs := [.nils]) (ds := [.slc sz [] .full]) setBox_same (.cons (.nils sz .full (.inr rfl)) .nil)
          rwa [setBox_setBox] at this
      · rename_i fs hkk
        split at h
        · rename_i hk2
          have hz : (T.look t).k.zero = some [.nilp, .nils] := by rw [hkk]; rfl
          exact .inr (.loud hk2 (w_allocT t ho (TI.zero_ok ht hz) h.1 fun b htg hb => ⟨_, hB.new hb, h.2 b htg hb⟩))
        · exact .inl h
      · split at h
        · rename_i z hz
          exact .inr (wrap (w_alloc t ho (TI.zero_ok ht hz) fun b hb => ⟨b, hb, rfl, rfl⟩) fun b hb => ⟨_, hB.new hb, h b hb⟩)
        · exact .inl h
    · exact .inl h
  · rename_i t x
    rw [xV_eq, ev_eq] at h
    split at h
    · rename_i hf
      rcases h.go with h | ⟨hk, h⟩
      · exact .inr (.pure _ (ok_boxF t x ho hf).pure ⟨B, hB, h⟩)
      · exact .inr (.loud hk (w_box t x ho hf fun b hb => ⟨_, hB.new hb, h b hb⟩))
    · exact .inl h
  · rename_i t x y
    split at h
    · exact .inl h
    · rename_i b off hx hno
      rw [ev_eq] at hx
      split at h
      · rename_i hk
        rw [xV_eq, ev_eq] at h
        split at h
        · rename_i hf
          rw [xCells_eq] at h
          split at h
          · rename_i hl
            obtain ⟨i, cs, h1, h2, h3⟩ := h.go
            have hs := (TI.cells_ok (TT.ok_look hT t) (by simpa using hno)).h
            exact .inr (.loud hk (w_store t x y ho hx (hB.get h1) hf (by rw [hs, hl]) h2 ⟨_, hB.set h1, h3⟩))
          · exact .inl h
        · exact .inl h
      · exact .inl h
    · exact .inl h
  · rename_i x args ts
    split at h
    · rename_i f first cap hx
      rw [ev_eq] at hx
      rw [xVs_eq, fL_eq (fun _ _ => rfl), evs_eq, evals_eq] at h
      obtain ⟨hk, r, h1, h2⟩ | ⟨hf, h | ⟨hk, h⟩ | ⟨hk, h⟩ | ⟨hk, h⟩⟩ := h.go hB
      · exact .inr (.loud hk (op_ext ho hx h1 ⟨B, hB, h2⟩))
      · obtain ⟨r, h1, h2⟩ := h
        exact .inr (.pure r (fun σ => op_call ho hx hf (h1 σ)) ⟨B, hB, h2⟩)
      · obtain ⟨r, h1, h2⟩ := h
        exact .inr (.quiet r hk (op_call ho hx hf h1) ⟨B, hB, h2⟩)
      · exact .inr (.loud hk (op_call ho hx hf h))
      · exact .inr (.keeps hk ((op_call ho hx hf h).mono fun r s ⟨h1, h2⟩ => ⟨h1, fun hs => (hH s).2 (h2 ((hH σ).1 hs))⟩))
    · rename_i l hx
      rw [ev_eq] at hx
      split at h
      · rename_i hk
        rw [xVs_eq, evs_eq, evals_eq] at h
        exact .inr (.loud hk (op_yield ho hx (h.go hB)))
      · exact .inl h
    · exact .inl h
  · rename_i t
    split at h
    · rename_i hk
      exact .inr (.loud hk (w_makeMap t ho fun m hm => ⟨B, hB.obj m _, h m hm⟩))
    · exact .inl h
  · rename_i t x
    split at h
    · rename_i l hk0 hx
      rw [ev_eq] at hx
      have hu : TyU P t .string := by
        have h1 := TT.ok_look hT t
        rw [TI.ok, hk0] at h1
        exact h1.1
      split at h
      · rename_i hk
        exact .inr (.loud hk (w_range t x ho hu.h hx fun m hm => ⟨B, hB.obj m _, h m hm⟩))
      · exact .inl h
    · exact .inl h
  · rename_i x
    split at h
    · rename_i m hx
      rw [ev_eq] at hx
      split at h
      · rename_i hk
        obtain ⟨s, i, h1, ⟨h2, h3⟩ | ⟨h2, h3⟩⟩ := h.go
        · exact .inr (.loud hk (w_next_y x ho hx h1 h2 ⟨B, hB.obj m _, h3⟩))
        · exact .inr (.loud hk (w_next_n x ho hx h1 h2 ⟨B, hB, h3⟩))
      · exact .inl h
    · exact .inl h
  · rename_i t m ix y
    split at h
    · rename_i b hm
      rw [ev_eq] at hm
      split at h
      · rename_i hk
        rw [xV_eq, xV_eq] at h
        obtain ⟨key, elem, kd, hM, hkd, es, es', h1, h2, h3⟩ := h.go
        exact .inr (.loud hk (w_mapSet t m ix y (.inr ho) hm (ev_eq ..).symm (ev_eq ..).symm hkd h1 h2 ⟨B, hB.obj _ _, h3⟩))
      · exact .inl h
    · exact .inl h
  · rename_i t m ix y
    split at h
    · rename_i b hm
      rw [ev_eq] at hm
      split at h
      · rename_i hk
        rw [xV_eq, xV_eq] at h
        obtain ⟨key, elem, kd, hM, hkd, es, es', h1, h2, h3⟩ := h.go
        exact .inr (.loud hk (w_mapSet t m ix y (.inl ho) hm (ev_eq ..).symm (ev_eq ..).symm hkd h1 h2 ⟨B, hB.obj _ _, h3⟩))
      · exact .inl h
    · exact .inl h
  · rename_i t m ix ok
    split at h
    · rename_i b hm
      rw [ev_eq] at hm
      split at h
      · rename_i hk
        rw [xV_eq] at h
        obtain ⟨key, elem, kd, hM, hkd, es, r, h1, h2, h3⟩ := h.go
        exact .inr (.loud hk (w_lookup t m ix ok ho hm (ev_eq ..).symm hkd h1 h2 ⟨B, hB, h3⟩))
      · exact .inl h
    · exact .inl h
  · rename_i args ts
    split at h
    · rename_i s x a b ha hb
      split at h
      · rename_i hk
        rw [xV_eq, xV_eq] at h
        have e1 : args = #[s, x] := by apply Array.ext'; simpa using ha
        have e2 : ts = #[a, b] := by apply Array.ext'; simpa using hb
        subst e1; subst e2
        exact .inr (.loud hk (h.go hB o (env L) s x ho (ev_eq ..).symm (ev_eq ..).symm))
      · exact .inl h
    · exact .inl h
  · rename_i args ts
    split at h
    · rename_i x t ha hb
      have e1 : args = #[x] := by apply Array.ext'; simpa using ha
      have e2 : ts = #[t] := by apply Array.ext'; simpa using hb
      subst e1; subst e2
      split at h
      · rename_i e sz u8 b off n cp hk0 hx
        rw [ev_eq] at hx
        split at h
        · rename_i hk
          split at h
          · rename_i z hz
            have ht := TT.ok_look hT t
            rw [TI.ok, hk0] at ht
            obtain ⟨i, cs, h1, h2, h3⟩ := h.go
            rw [List.length_replicate] at h2
            exact .inr (.loud hk (w_clear x ho ht.1.1.h (TI.zero_ok (TT.ok_look hT e) hz) hx (hB.get h1) h2 ⟨_, hB.set h1, h3⟩))
          · exact .inl h
        · exact .inl h
      · exact .inl h
    · exact .inl h
  · rename_i args ts
    split at h
    · rename_i d x a b ha hb
      split at h
      · rename_i hk
        rw [xV_eq, xV_eq] at h
        have e1 : args = #[d, x] := by apply Array.ext'; simpa using ha
        have e2 : ts = #[a, b] := by apply Array.ext'; simpa using hb
        subst e1; subst e2
        exact .inr (.loud hk (h.go hT hB o (env L) d x ho (ev_eq ..).symm (ev_eq ..).symm))
      · exact .inl h
    · exact .inl h
  · rename_i args ts
    split at h
    · rename_i x t ha hb
      have e1 : args = #[x] := by apply Array.ext'; simpa using ha
      have e2 : ts = #[t] := by apply Array.ext'; simpa using hb
      subst e1; subst e2
      split at h
      · rename_i e sz u8 b off n cp hk0 hx
        rw [ev_eq] at hx
        have ht := TT.ok_look hT t
        rw [TI.ok, hk0] at ht
        exact .inr (.pure _ (ok_capM x ho ht.1.1.h hx).pure ⟨B, hB, h⟩)
      · exact .inl h
    · exact .inl h
  · rename_i args ts
    split at h
    · rename_i x ha
      have e1 : args = #[x] := by apply Array.ext'; simpa using ha
      subst e1
      split at h
      · rename_i hx
        rw [ev_eq] at hx
        exact .inr (.pure _ (ok_sliceDataN x ho hx).pure ⟨B, hB, h⟩)
      · rename_i b off n cp hx
        rw [ev_eq] at hx
        exact .inr (.pure _ (ok_sliceDataM x ho hx h.1).pure ⟨B, hB, h.2⟩)
      · exact .inl h
    · exact .inl h
  · rename_i args ts
    split at h
    · rename_i hk
      exact .inr (.loud hk (h.go hT hB o ho))
    · exact .inl h
  · rename_i s d x
    split at h
    · split at h
      · rename_i hk
        exact .inr (.loud hk (h.go hT hB o ho))
      · exact .inl h
    · rcases xPure_ok hT h with h | ⟨r, h1, h2⟩
      · exact .inl h
      · exact .inr (stepD_pure hB (by rw [ho]; exact h1) h2)
  · rename_i t x lo hi
    split at h
    · rename_i e sz u8 b off n cp hk0 hx
      rw [ev_eq] at hx
      have ht := TT.ok_look hT t
      rw [TI.ok, hk0] at ht
      rcases xBnd_ok h with h | ⟨p, hp, h⟩
      · exact .inl h
      · rcases xBnd_ok h with h | ⟨q, hq, h⟩
        · exact .inl h
        · obtain ⟨h0, off', e1, n', e2, c', e3, h⟩ := h
          subst e1; subst e2; subst e3
          exact .inr (.pure _ (ok_sliceM x lo hi ho ht.1.1.h ht.2.1.h hx hp hq h0).pure ⟨B, hB, h⟩)
    · rcases xPure_ok hT h with h | ⟨r, h1, h2⟩
      · exact .inl h
      · exact .inr (stepD_pure hB (by rw [ho]; exact h1) h2)
  · rename_i op t x y yt
    split at h
    · rename_i e sz u8 sz' tk hk0 hc hy hx
      rw [ev_eq] at hx hy
      have ht := TT.ok_look hT t
      rw [TI.ok, hk0] at ht
      split at h
      · split at h
        · rename_i hk
          exact .inr (.loud hk (w_nilS x y ho ht.1.1.h (.inl rfl) hx hy hc ⟨B, hB, h.t⟩ ⟨B, hB, h.f⟩))
        · exact .inl h
      · split at h
        · rename_i hk
          exact .inr (.loud hk (w_nilS x y ho ht.1.1.h (.inr rfl) hx hy hc ⟨B, hB, h.t⟩ ⟨B, hB, h.f⟩))
        · exact .inl h
      · exact .inl h
    · rename_i e sz u8 b off n cp hk0 hc hy hx
      rw [ev_eq] at hx hy
      have ht := TT.ok_look hT t
      rw [TI.ok, hk0] at ht
      split at h
      · split at h
        · rename_i hk
          exact .inr (.loud hk (w_nilM x y ho ht.1.1.h (.inl rfl) hx hy hc ⟨B, hB, h⟩))
        · exact .inl h
      · split at h
        · rename_i hk
          exact .inr (.loud hk (w_nilM x y ho ht.1.1.h (.inr rfl) hx hy hc ⟨B, hB, h⟩))
        · exact .inl h
      · exact .inl h
    · rename_i fs z cb ys xs hk0 hy hx
      rw [ev_eq] at hx hy
      obtain ⟨b, r, h1, h2, h3, h4, h5⟩ := h.go
      exact .inr (.pure _ (ok_eqAgg ho h1 hx hy h2 h3 h4).pure ⟨B, hB, h5⟩)
    · obtain ⟨r, h1, h2⟩ := h.go hT
      exact .inr (.pure _ (h1 o ho).pure ⟨B, hB, h2⟩)
    · split at h
      · rename_i hk
        exact .inr (.loud hk (h.go hT hB o ho))
      · exact .inl h
    · rename_i b a hk0 hc hy hx
      rw [ev_eq] at hx hy
      cases hbr : bigRem op b with
      | true =>
        rw [hbr] at h
        simp only [cond_true] at h
        have hop : op = .rem := by cases op <;> simp_all [bigRem]
        subst hop
        obtain ⟨h1, h2⟩ := h.go
        exact .inr (stepD_pure hB (by rw [ho]; exact a_binI hx hy (by simp [aIntOp, h1])) (h2 _ rfl))
      | false =>
        rw [hbr] at h
        simp only [cond_false] at h
        rcases xPure_ok hT h with h | ⟨r, h1, h2⟩
        · exact .inl h
        · exact .inr (stepD_pure hB (by rw [ho]; exact h1) h2)
    · rcases xPure_ok hT h with h | ⟨r, h1, h2⟩
      · exact .inl h
      · exact .inr (stepD_pure hB (by rw [ho]; exact h1) h2)
  · rename_i t x j
    have ht := TT.ok_look hT t
    split at h
    · rename_i e sz u8 sz' xs tk kk n hk hx hj
      rw [ev_eq] at hx hj
      rw [TI.ok, hk] at ht
      have h1 := ht.1.1
      have h2 := ht.2.1
      split at h
      · rename_i hc
        obtain ⟨rfl, hp⟩ := hc
        obtain ⟨v, ⟨h3, h4⟩, h5⟩ := h
        exact .inr (stepD_pure hB (by rw [ho]; exact a_indexAddr hx hj hp h3 h4) h5)
      · exact .inl h
    · rename_i e sz u8 b off m cp kk n hk hx hj
      rw [ev_eq] at hx hj
      rw [TI.ok, hk] at ht
      have h1 := ht.1.1
      have h2 := ht.2.1
      exact .inr (stepD_pure hB (by rw [ho]; exact a_indexAddrM hx hj h.1) h.2)
    · rename_i len e sz ag z b off kk n hk hx hj
      rw [ev_eq] at hx hj
      rw [TI.ok, hk] at ht
      have h1 := ht.1.1
      have h2 := ht.2.1
      exact .inr (stepD_pure hB (by rw [ho]; exact a_indexAddrR hx hj h.1) h.2)
    · rename_i len e sz z cs kk n hk hx hj
      rw [ev_eq] at hx hj
      rw [TI.ok, hk] at ht
      have h1 := ht.1.1.h
      have h2 := ht.2.1.h
      obtain ⟨d, h3, h4⟩ := ht.2.2.1.h
      obtain ⟨inf, hinf, hsz⟩ := Option.map_eq_some_iff.1 h2
      obtain ⟨h5, c, h6, h7⟩ := h
      refine .inr (.pure _ (ok_indexVp t x j ho h1 h2 hx hj h5 (r := c) ?_).pure ⟨B, hB, h7⟩)
      simp [aPart, h3, h4, hinf, h6]
    · rename_i len e sz z cs kk n hk hx hj
      rw [ev_eq] at hx hj
      rw [TI.ok, hk] at ht
      have h1 := ht.1.1.h
      have h2 := ht.2.1.h
      obtain ⟨d, h3, h4⟩ := ht.2.2.1.h
      obtain ⟨inf, hinf, hsz⟩ := Option.map_eq_some_iff.1 h2
      obtain ⟨h5, us, h6, h7⟩ := h
      refine .inr (.pure _ (ok_indexVp t x j ho h1 h2 hx hj h5 (r := .agg us) ?_).pure ⟨B, hB, h7⟩)
      simp only [aPart, h3, h4, hinf, Option.map_some, if_true, hsz, h6]
    · exact .inl h
  · rename_i t x j
    have ht := TT.ok_look hT t
    split at h
    · rename_i l kk n hk hx hj
      rw [ev_eq] at hx hj
      rw [TI.ok, hk] at ht
      have h1 := ht.1
      obtain ⟨b, ⟨h3, h4⟩, h5⟩ := h
      exact .inr (stepD_pure hB (by rw [ho]; exact a_indexS hx hj h3 h4) h5)
    · rename_i len e sz z cs kk n hk hx hj
      rw [ev_eq] at hx hj
      rw [TI.ok, hk] at ht
      have h1 := ht.1.1.h
      have h2 := ht.2.1.h
      obtain ⟨d, h3, h4⟩ := ht.2.2.1.h
      obtain ⟨inf, hinf, hsz⟩ := Option.map_eq_some_iff.1 h2
      obtain ⟨h5, c, h6, h7⟩ := h
      refine .inr (.pure _ (ok_index t x j ho (r := c) ?_).pure ⟨B, hB, h7⟩)
      rw [hx, hj]
      simp only [aIndex, h1, h5, and_self, if_true, h2, Option.bind_some, aPart, h3, hinf, Option.map_some, h4, hsz]
      exact h6
    · rename_i len e sz z cs kk n hk hx hj
      rw [ev_eq] at hx hj
      rw [TI.ok, hk] at ht
      have h1 := ht.1.1.h
      have h2 := ht.2.1.h
      obtain ⟨d, h3, h4⟩ := ht.2.2.1.h
      obtain ⟨inf, hinf, hsz⟩ := Option.map_eq_some_iff.1 h2
      obtain ⟨h5, us, h6, h7⟩ := h
      refine .inr (.pure _ (ok_index t x j ho (r := .agg us) ?_).pure ⟨B, hB, h7⟩)
      rw [hx, hj]
      simp only [aIndex, h1, h5, and_self, if_true, h2, Option.bind_some, aPart, h3, hinf, Option.map_some, h4, hsz, h6]
    · exact .inl h
  · rename_i x xt u ok
    split at h
    · rename_i hp
      obtain ⟨hd, hz⟩ := TI.plain_ok (TT.ok_look hT u) hp
      split at h
      · rename_i t v hx
        rw [ev_eq] at hx
        split at h
        · rename_i e
          subst e
          cases ok with
          | true => exact .inr (.pure _ (ok_typeAssert x xt t true ho hd hz (by rw [hx]; simp [assertV])).pure ⟨B, hB, h⟩)
          | false => exact .inr (.pure _ (ok_typeAssert x xt t false ho hd hz (by rw [hx]; simp [assertV])).pure ⟨B, hB, h⟩)
        · rename_i hne
          cases ok with
          | true => exact .inr (.pure _ (ok_typeAssert x xt u true ho hd hz (by rw [hx]; simp [assertV, hne])).pure ⟨B, hB, h⟩)
          | false => exact .inl h
      · rename_i hx
        rw [ev_eq] at hx
        cases ok with
        | true => exact .inr (.pure _ (ok_typeAssert x xt u true ho hd hz (by rw [hx]; simp [assertV])).pure ⟨B, hB, h⟩)
        | false => exact .inl h
      · exact .inl h
    · exact .inl h
  · rename_i c x y
    split at h
    · rename_i b hc
      rw [ev_eq] at hc
      rw [xV_eq, xV_eq, ev_eq, ev_eq] at h
      exact .inr (stepD_pure hB (by rw [ho]; exact a_pick hc rfl rfl) h.go)
    · exact .inl h
  · rcases xPure_ok hT h with h | ⟨r, h1, h2⟩
    · exact .inl h
    · exact .inr (stepD_pure hB (by rw [ho]; exact h1) h2)
end Go.Al
end
section
set_option linter.unusedVariables false
set_option linter.unusedSimpArgs false
namespace Go.Al
open Go.RowKit

def put (L : SL) (d : Option Nat) (r : AV) : SL :=
  match d with
  | some t => (t, r) :: L
  | none => L
theorem put_env (L : SL) (d : Option Nat) (r : AV) : upd (env L) d r = env (put L d r) := by cases d <;> rfl
def xPut (L : SL) (d : Option Nat) (r : AV) (K : SL → Prop) : Prop :=
  match d with
  | some t => K ((t, r) :: L)
  | none => K L
theorem xPut_eq (L : SL) (d : Option Nat) (r : AV) (K : SL → Prop) : xPut L d r K = K (put L d r) := by cases d <;> rfl
def dsAt : List Oper → Nat → Option Tmp
  | [], _ => none
  | o :: _, 0 => o.dst
  | _ :: l, n + 1 => dsAt l n
theorem dsAt_eq : ∀ (l : List Oper) (n : Nat), (l.map (·.dst)).getD n none = dsAt l n
  | [], n => by simp [dsAt]
  | o :: l, 0 => by simp [dsAt]
  | o :: l, n + 1 => by
    rw [dsAt, ← dsAt_eq l n]; simp [List.getD]
def xGuard (os : List Oper) (L : SL) (o : Oper) (stop kskip krun : Prop) : Prop :=
  match o.guard with
  | none => krun
  | some (j, want) => match dsAt os j with
    | none => stop
    | some d => match lk L d with
      | .bool b => bif want then SCond b krun kskip else SCond b kskip krun
      | .tup [] => kskip
      | _ => stop
theorem xGuard_ok {os : List Oper} {L : SL} {o : Oper} {stop kskip krun : Prop} (h : xGuard os L o stop kskip krun) : stop ∨ (aWantL (os.map (·.dst)) (env L) o = some false ∧ kskip) ∨ (aWantL (os.map (·.dst)) (env L) o = some true ∧ krun) := by
  unfold xGuard at h
  split at h
  · rename_i hg
    exact .inr (.inr ⟨by simp [aWantL, hg], h⟩)
  · rename_i j want hg
    split at h
    · exact .inl h
    · rename_i d hd
      rw [← dsAt_eq] at hd
      split at h
      · rename_i b hb
        rw [lk_eq] at hb
        have hw := want_guard hg hd hb
        cases want <;> cases b
        · exact .inr (.inr ⟨hw, h.f rfl⟩)
        · exact .inr (.inl ⟨hw, h.t rfl⟩)
        · exact .inr (.inl ⟨hw, h.f rfl⟩)
        · exact .inr (.inr ⟨hw, h.t rfl⟩)
      · rename_i hb
        rw [lk_eq] at hb
        exact .inr (.inl ⟨want_n hg hd hb, h⟩)
      · exact .inl h
def QN (k : SL → St → BL → Prop) : AEnv → St → Prop := fun E s => ∃ L B, E = env L ∧ Know s B ∧ k L s B
def Xr (P : Program) (w0 : Base) (T : TT) (os : List Oper) (kd : Kd) (k : SL → St → BL → Prop) : Nat → List Oper → SL → St → BL → Prop
  | _, [], L, σ, B => k L σ B
  | i, o :: rest, L, σ, B =>
    xGuard os L o (Stop (Know σ B → RunsL P w0 (os.map (·.dst)) kd (QN k) i (o :: rest) (env L) σ))
      (xPut L o.dst (.tup []) fun L' => Xr P w0 T os kd k (i + 1) rest L' σ B)
      (xOper P w0 T (kd.cs.map fun cs => (kd.b, cs)) (kd.k i) L σ B (Stop (Know σ B → RunsL P w0 (os.map (·.dst)) kd (QN k) i (o :: rest) (env L) σ))
        (fun r s B' => fAV 4 r fun r' => xPut L o.dst r' fun L' => Xr P w0 T os kd k (i + 1) rest L' s B') o.op)
theorem held_iff (kd : Kd) (s : St) : kd.held s ↔ HB (kd.cs.map fun cs => (kd.b, cs)) s := by
  unfold Kd.held HB
  constructor
  · intro h p hp
    obtain ⟨cs, h1, rfl⟩ := Option.map_eq_some_iff.1 hp
    exact h cs h1
  · intro h cs hc
    exact h (kd.b, cs) (by rw [hc]; rfl)
theorem Xr_ok {P : Program} {w0 : Base} {T : TT} (hT : T.ok P) {os : List Oper} {kd : Kd} {k : SL → St → BL → Prop} : ∀ (l : List Oper) (i : Nat) (L : SL) (σ : St) (B : BL), Know σ B → Xr P w0 T os kd k i l L σ B → RunsL P w0 (os.map (·.dst)) kd (QN k) i l (env L) σ
  | [], i, L, σ, B, hB, h => ⟨L, B, rfl, hB, h⟩
  | o :: l, i, L, σ, B, hB, h => by
    rw [Xr] at h
    rcases xGuard_ok h with h | ⟨hw, h⟩ | ⟨hw, h⟩
    · exact h.h hB
    · rw [xPut_eq] at h
      unfold RunsL
      simp only [hw]
      rw [put_env]
      exact Xr_ok hT l _ _ σ B hB h
    · rcases xOper_ok (H := kd.held) hT hB rfl (held_iff kd) h with h | h
      · exact h.h hB
      · unfold RunsL
        simp only [hw]
        refine h.mono fun r s ⟨B', hB', h⟩ => ?_
        rw [fAV_eq, xPut_eq] at h
        rw [put_env]
        exact Xr_ok hT l _ _ s B' hB' h
def codeOk (n : Nat) : Code → Bool
  | .region _ ops _ => dstsOk n ops
  | .seq a b => codeOk n a && codeOk n b
  | .cond _ a b => codeOk n a && codeOk n b
  | .block _ c => codeOk n c
  | .loop c => codeOk n c
  | _ => true
def QX (k : SL → St → BL → Prop) (X : Nat → SL → St → BL → Prop) (R : SL → St → BL → Prop) : Exit → AEnv → St → Prop
  | .normal, E, s => QN k E s
  | .exit j, E, s => QN (X j) E s
  | .ret, E, s => QN R E s
  | _, _, _ => False
structure SLoop (P : Program) (w0 : Base) (T : TT) (n : Nat) (c : Code) (k : SL → St → BL → Prop) (X : Nat → SL → St → BL → Prop) (R : SL → St → BL → Prop) (L : SL) (σ : St) (B : BL) : Prop where
  go : T.ok P → codeOk n c = true → Know σ B → W P w0 n (.loop c) (QX k X R) (env L) σ
structure SIf (P : Program) (w0 : Base) (T : TT) (n : Nat) (t : Bool) (c : Operand) (x y : Code) (k : SL → St → BL → Prop) (X : Nat → SL → St → BL → Prop) (R : SL → St → BL → Prop) (L : SL) (σ : St) (B : BL) : Prop where
  go : T.ok P → codeOk n x = true → codeOk n y = true → Know σ B → aeval (env L) c = .bool t → W P w0 n (.cond c x y) (QX k X R) (env L) σ
def gk : List Nat → Nat → Nat
  | [], _ => 0
  | x :: _, 0 => x
  | _ :: l, n + 1 => gk l n
theorem gk_eq : ∀ (l : List Nat) (n : Nat), gk l n = l.getD n 0
  | [], n => by simp [gk]
  | x :: l, 0 => by simp [gk]
  | x :: l, n + 1 => by rw [gk, gk_eq l n]; simp [List.getD]
def xOrd (l : List Oper) : List Nat → (List Oper → Prop) → Prop
  | [], k => k []
  | i :: r, k => match nth l i with
    | some o => xOrd l r fun l' => k (o :: l')
    | none => xOrd l r k
theorem xOrd_eq (l : List Oper) : ∀ (r : List Nat) (k : List Oper → Prop), xOrd l r k = k (r.filterMap fun i => l[i]?)
  | [], k => rfl
  | i :: r, k => by
    rw [xOrd, nth_eq]
    cases h : l[i]? with
    | some o => simp only [xOrd_eq l r, List.filterMap_cons, h]
    | none => simp only [xOrd_eq l r, List.filterMap_cons, h]
structure SReg (P : Program) (w0 : Base) (T : TT) (n id : Nat) (l : List Oper) (k : SL → St → BL → Prop) (X : Nat → SL → St → BL → Prop) (R : SL → St → BL → Prop) (L : SL) (σ : St) (B : BL) : Prop where
  go : T.ok P → P.follows .mixedOrders = true → dstsOk n l.toArray = true → Know σ B → W P w0 n (.region id l.toArray true) (QX k X R) (env L) σ
section
variable {P : Program} {w0 : Base} {T : TT} {n id : Nat} {l : List Oper} {k : SL → St → BL → Prop} {X : Nat → SL → St → BL → Prop} {R : SL → St → BL → Prop} {L : SL} {σ : St} {B : BL}
theorem SReg.o (ord : List Nat) (rd : Nat) (ls : List Nat) (ho : orderOk l.toArray (kindOf rd ls l) ord = true) (h : Xr P w0 T l ⟨fun i => kindOf rd ls l (ord.getD i 0), 0, none⟩ k 0 (ord.filterMap fun i => l[i]?) L σ B) : SReg P w0 T n id l k X R L σ B :=
  ⟨fun hT hm hd hB => .regionD hm ⟨kindOf rd ls l, 0, none⟩ ord ho hd (runsL_perm ord ⟨fun i => kindOf rd ls l (ord.getD i 0), 0, none⟩ 0 (env L) σ (fun j => by show kindOf rd ls l (ord.getD (0 + j) 0) = _; rw [Nat.zero_add]) rfl (fun i hi => by simpa using order_lt ho i hi) (Xr_ok hT _ _ _ _ _ hB h))⟩
theorem SReg.d (ord kd : List Nat) (ho : orderOk l.toArray (gk kd) ord = true) (h : xOrd l ord fun l' => Xr P w0 T l ⟨fun i => gk kd (gk ord i), 0, none⟩ k 0 l' L σ B) : SReg P w0 T n id l k X R L σ B :=
  ⟨fun hT hm hd hB => .regionD hm ⟨gk kd, 0, none⟩ ord ho hd (runsL_perm ord ⟨fun i => gk kd (gk ord i), 0, none⟩ 0 (env L) σ (fun j => congrArg (gk kd) (by rw [Nat.zero_add, gk_eq])) rfl (fun i hi => by simpa using order_lt ho i hi) (Xr_ok hT _ _ _ _ _ hB (by rwa [xOrd_eq] at h)))⟩
theorem SReg.h (i : Nat) {b : Nat} {cs : List AV} (hi : nth B i = some (b, cs)) (ord kd : List Nat) (ho : orderOk l.toArray (gk kd) ord = true) (h : xOrd l ord fun l' => Xr P w0 T l ⟨fun i => gk kd (gk ord i), b, some cs⟩ k 0 l' L σ B) : SReg P w0 T n id l k X R L σ B :=
  ⟨fun hT hm hd hB => .regionD hm ⟨gk kd, b, some cs⟩ ord ho hd (runsL_perm ord ⟨fun i => gk kd (gk ord i), b, some cs⟩ 0 (env L) σ (fun j => congrArg (gk kd) (by rw [Nat.zero_add, gk_eq])) rfl (fun i hi => by simpa using order_lt ho i hi) (Xr_ok hT _ _ _ _ _ hB (by rwa [xOrd_eq] at h)))⟩
theorem SReg.t (rd : Nat) (ls : List Nat) (ho : orderOk l.toArray (kindOf rd ls l) (List.range l.length) = true) (h : Xr P w0 T l ⟨kindOf rd ls l, 0, none⟩ k 0 l L σ B) : SReg P w0 T n id l k X R L σ B :=
  ⟨fun hT hm hd hB => .regionD hm ⟨kindOf rd ls l, 0, none⟩ _ ho hd (by
    have := runsL_runs (P := P) (w0 := w0) (os := l) l [] (env L) σ (by simp) (Xr_ok hT _ _ _ _ _ hB h)
    show Runs P w0 l.toArray ⟨kindOf rd ls l, 0, none⟩ (QN k) _ _ _
    simpa [List.range_eq_range'] using this)⟩
theorem Moves.new2 {σ σ' : St} {tk tk' : Tok} {b : Nat} {zs cs : List AV} (h : Moves σ tk σ' tk') (hb : σ'.box b = none) : Moves σ tk ((σ'.setBox b zs).setBox b cs) tk' := by
  rw [setBox_setBox]; exact h.new (by
    cases e : σ.box b with
    | none => rfl
    | some ds => rw [h.box b ds e] at hb; cases hb)
theorem setBox_self {σ : St} {b : Nat} {cs : List AV} (h : σ.box b = some cs) : σ.setBox b cs = σ := by
  cases σ with
  | mk box tok obj =>
    simp only [St.setBox, St.mk.injEq, and_true]
    funext j
    split
    · rename_i e; subst e; exact h.symm
    · rfl
end
def Xc (P : Program) (w0 : Base) (T : TT) (n : Nat) : Code → (SL → St → BL → Prop) → (Nat → SL → St → BL → Prop) → (SL → St → BL → Prop) → SL → St → BL → Prop
  | .skip, k, X, R, L, σ, B => k L σ B
  | .label _, k, X, R, L, σ, B => k L σ B
  | .region _ ops false, k, X, R, L, σ, B => Xr P w0 T ops.toList ⟨fun _ => 2, 0, none⟩ k 0 ops.toList L σ B
  | .region id ops true, k, X, R, L, σ, B => SReg P w0 T n id ops.toList k X R L σ B
  | .seq a b, k, X, R, L, σ, B => Xc P w0 T n a (fun L σ B => Xc P w0 T n b k X R L σ B) X R L σ B
  | .cond c a b, k, X, R, L, σ, B => match ev L c with
    | .bool t => SIf P w0 T n t c a b k X R L σ B
    | _ => Stop (Know σ B → W P w0 n (.cond c a b) (QX k X R) (env L) σ)
  | .block id c, k, X, R, L, σ, B => Xc P w0 T n c k (fun j L σ B => bif Nat.beq j id then k L σ B else X j L σ B) R L σ B
  | .loop c, k, X, R, L, σ, B => SLoop P w0 T n c k X R L σ B
  | .exit j, k, X, R, L, σ, B => X j L σ B
  | .ret, k, X, R, L, σ, B => R L σ B
  | c, k, X, R, L, σ, B => Stop (Know σ B → W P w0 n c (QX k X R) (env L) σ)
theorem Xc_ok {P : Program} {w0 : Base} {T : TT} (hT : T.ok P) (hm : P.follows .mixedOrders = true) {n : Nat} : ∀ (c : Code) (k : SL → St → BL → Prop) (X : Nat → SL → St → BL → Prop) (R : SL → St → BL → Prop) (L : SL) (σ : St) (B : BL), codeOk n c = true → Know σ B → Xc P w0 T n c k X R L σ B → W P w0 n c (QX k X R) (env L) σ
  | .skip, k, X, R, L, σ, B, _, hB, h => .skip ⟨L, B, rfl, hB, h⟩
  | .label l, k, X, R, L, σ, B, _, hB, h => .label ⟨L, B, rfl, hB, h⟩
  | .region id ops false, k, X, R, L, σ, B, ho, hB, h => by
    have := W.regionL (id := id) (l := ops.toList) (ds := ops.toList.map (·.dst)) (Q := QX k X R) ho rfl (Xr_ok (P := P) (w0 := w0) hT _ _ _ _ _ hB h)
    simpa using this
  | .region id ops true, k, X, R, L, σ, B, ho, hB, h => by
    have h1 := SReg.go h hT hm (by rw [Array.toArray_toList]; exact ho) hB
    rwa [Array.toArray_toList] at h1
  | .seq a b, k, X, R, L, σ, B, ho, hB, h => by
    simp only [codeOk, Bool.and_eq_true] at ho
    refine .seq ((Xc_ok hT hm a _ X R L σ B ho.1 hB h).mono fun e E s q => ?_)
    cases e with
    | normal =>
      obtain ⟨L', B', rfl, hB', q⟩ := q
      exact Xc_ok hT hm b k X R L' s B' ho.2 hB' q
    | exit j => exact q
    | ret => exact q
    | goto l => exact q
    | panic c => exact q
    | outgrown => exact q
  | .cond c a b, k, X, R, L, σ, B, ho, hB, h => by
    simp only [codeOk, Bool.and_eq_true] at ho
    rw [Xc] at h
    split at h
    · rename_i t hc
      rw [ev_eq] at hc
      exact h.go hT ho.1 ho.2 hB hc
    · exact h.h hB
  | .block id c, k, X, R, L, σ, B, ho, hB, h => by
    refine .block ((Xc_ok hT hm c k _ R L σ B ho hB h).mono fun e E s q => ?_)
    cases e with
    | exit j =>
      obtain ⟨L', B', rfl, hB', q⟩ := q
      by_cases hj : j = id
      · subst hj
        rw [Nat.beq_refl] at q
        simp only [blockQ, if_true]
        exact ⟨L', B', rfl, hB', q⟩
      · have hb : Nat.beq j id = false := by
          cases hb : Nat.beq j id with
          | false => rfl
          | true => exact absurd (Nat.eq_of_beq_eq_true hb) hj
        rw [hb] at q
        simp only [blockQ, if_neg hj]
        exact ⟨L', B', rfl, hB', q⟩
    | normal => exact q
    | ret => exact q
    | goto l => exact q
    | panic c => exact q
    | outgrown => exact q
  | .loop c, k, X, R, L, σ, B, ho, hB, h => SLoop.go h hT ho hB
  | .exit j, k, X, R, L, σ, B, _, hB, h => .exit ⟨L, B, rfl, hB, h⟩
  | .ret, k, X, R, L, σ, B, _, hB, h => .ret ⟨L, B, rfl, hB, h⟩
  | .rangeFunc .., k, X, R, L, σ, B, _, hB, h => Stop.h h hB
  | .scope .., k, X, R, L, σ, B, _, hB, h => Stop.h h hB
  | .goto .., k, X, R, L, σ, B, _, hB, h => Stop.h h hB
  | .refuse .., k, X, R, L, σ, B, _, hB, h => Stop.h h hB
def fSL : SL → (SL → Prop) → Prop
  | [], k => k []
  | (t, x) :: l, k => fAV 4 x fun x' => fSL l fun l' => k ((t, x') :: l')
theorem fSL_eq : ∀ (l : SL) (k : SL → Prop), fSL l k = k l
  | [], k => rfl
  | (t, x) :: l, k => by rw [fSL, fAV_eq, fSL_eq l]
def fBL : BL → (BL → Prop) → Prop
  | [], k => k []
  | (b, cs) :: l, k => fBL l fun l' => k ((b, cs) :: l')
theorem fBL_eq : ∀ (l : BL) (k : BL → Prop), fBL l k = k l
  | [], k => rfl
  | (b, cs) :: l, k => by rw [fBL, fBL_eq l]
def xOpen (L : SL) (B : BL) (k : SL → BL → Prop) : Prop := fSL L fun L' => fBL B fun B' => k L' B'
theorem xOpen_eq (L : SL) (B : BL) (k : SL → BL → Prop) : xOpen L B k = k L B := by rw [xOpen, fSL_eq, fBL_eq]
theorem SIf.y {P : Program} {w0 : Base} {T : TT} {n : Nat} {t : Bool} {c : Operand} {x y : Code} {k : SL → St → BL → Prop} {X : Nat → SL → St → BL → Prop} {R : SL → St → BL → Prop} {L : SL} {σ : St} {B : BL} (hm : P.follows .mixedOrders = true) (h : t = true) (q : Xc P w0 T n x k X R L σ B) : SIf P w0 T n t c x y k X R L σ B :=
  ⟨fun hT h1 h2 hB hc => .cond hc (fun _ => Xc_ok hT hm x k X R L σ B h1 hB q) (fun e => (by rw [h] at e; cases e))⟩
theorem SIf.n {P : Program} {w0 : Base} {T : TT} {n : Nat} {t : Bool} {c : Operand} {x y : Code} {k : SL → St → BL → Prop} {X : Nat → SL → St → BL → Prop} {R : SL → St → BL → Prop} {L : SL} {σ : St} {B : BL} (hm : P.follows .mixedOrders = true) (h : t = false) (q : Xc P w0 T n y k X R L σ B) : SIf P w0 T n t c x y k X R L σ B :=
  ⟨fun hT h1 h2 hB hc => .cond hc (fun e => (by rw [h] at e; cases e)) (fun _ => Xc_ok hT hm y k X R L σ B h2 hB q)⟩
theorem SIf.x {P : Program} {w0 : Base} {T : TT} {n : Nat} {t : Bool} {c : Operand} {x y : Code} {k : SL → St → BL → Prop} {X : Nat → SL → St → BL → Prop} {R : SL → St → BL → Prop} {L : SL} {σ : St} {B : BL} (hm : P.follows .mixedOrders = true) (q1 : t = true → Xc P w0 T n x k X R L σ B) (q2 : t = false → Xc P w0 T n y k X R L σ B) : SIf P w0 T n t c x y k X R L σ B :=
  ⟨fun hT h1 h2 hB hc => .cond hc (fun e => Xc_ok hT hm x k X R L σ B h1 hB (q1 e)) (fun e => Xc_ok hT hm y k X R L σ B h2 hB (q2 e))⟩
def xWeak : SL → SL → Prop
  | [], _ => True
  | (k, x) :: l, L => Weak x (lk L k) ∧ xWeak l L
theorem xWeak_has : ∀ {l L : SL}, xWeak l L → weakL l (env L)
  | [], L, h => trivial
  | (k, x) :: l, L, h => ⟨by rw [← lk_eq]; exact h.1, xWeak_has h.2⟩
structure At {α : Type} (inv : α → SL) (bx : α → BL) (p : α → St → Prop) (a : α) (L : SL) (σ : St) (B : BL) : Prop where
  weak : xWeak (inv a) L
  box : BSub (bx a) B
  p : p a σ
theorem SLoop.by {P : Program} {w0 : Base} {T : TT} {n : Nat} {c : Code} {k : SL → St → BL → Prop} {X : Nat → SL → St → BL → Prop} {R : SL → St → BL → Prop} {L : SL} {σ : St} {B : BL} {α : Type} (hm : P.follows .mixedOrders = true) (μ : α → Nat) (inv : α → SL) (bx : α → BL) (p : α → St → Prop) (a : α)
    (h0 : At inv bx p a L σ B) (round : ∀ a σ, p a σ → xOpen (inv a) (bx a) fun L B => Xc P w0 T n c (fun L1 σ1 B1 => ∃ a', μ a' < μ a ∧ At inv bx p a' L1 σ1 B1) X R L σ B) : SLoop P w0 T n c k X R L σ B := ⟨fun hT ho hB => by
  refine W.loop (fun m E s => ∃ a L B, m = μ a ∧ E = env L ∧ Know s B ∧ At inv bx p a L s B) (μ a) ⟨a, L, B, rfl, rfl, hB, h0⟩ ?_
  rintro m E s ⟨a, L, B, rfl, rfl, hB, h⟩
  refine W.has (Has.by (xWeak_has h.weak)) ?_
  refine (Xc_ok hT hm c _ X R (inv a) s (bx a) ho (hB.sub h.box) (by have := round a s h.p; rwa [xOpen_eq] at this)).mono fun e E' s' q => ?_
  cases e with
  | normal =>
    obtain ⟨L1, B1, rfl, hB1, a', hlt, h'⟩ := q
    exact ⟨μ a', hlt, a', L1, B1, rfl, rfl, hB1, h'⟩
  | exit j => exact q
  | ret => exact q
  | goto l => exact q
  | panic c => exact q
  | outgrown => exact q⟩
def xRes (P : Program) (T : TT) : List ResultVar → SL → BL → (List AV → Prop) → Prop
  | [], L, B, k => k []
  | .tmp t :: rs, L, B, k => fAV 4 (lk L t) fun v => xRes P T rs L B fun vs => k (v :: vs)
  | .cell a t :: rs, L, B, k => match lk L a with
    | .ptr b off => SLoad P T t b off B False fun v => fAV 4 v fun v' => xRes P T rs L B fun vs => k (v' :: vs)
    | _ => False
theorem xRes_ok {P : Program} {T : TT} (hT : T.ok P) : ∀ (rs : List ResultVar) {L : SL} {σ : St} {B : BL} {k : List AV → Prop}, Know σ B → xRes P T rs L B k → ∃ xs, aResults P (env L) σ rs = some xs ∧ k xs
  | [], L, σ, B, k, hB, h => ⟨[], rfl, h⟩
  | .tmp t :: rs, L, σ, B, k, hB, h => by
    rw [xRes, fAV_eq] at h
    obtain ⟨xs, h1, h2⟩ := xRes_ok hT rs hB h
    exact ⟨_, by simp [aResults, aResult, h1, lk_eq]; rfl, by rw [lk_eq] at h2; exact h2⟩
  | .cell a t :: rs, L, σ, B, k, hB, h => by
    rw [xRes] at h
    split at h
    · rename_i b off hb
      rw [lk_eq] at hb
      rcases h.go hT with h | ⟨i, cs, r, h1, h2, h3⟩
      · exact h.elim
      · rw [fAV_eq] at h3
        obtain ⟨xs, h4, h5⟩ := xRes_ok hT rs hB h3
        exact ⟨r :: xs, by simp [aResults, aResult, hb, hB.get h1, h2, h4], h5⟩
    · exact h.elim
structure SFin (K : AV → St → Prop) (σ : St) (B : BL) (r : AV) : Prop where
  go : Know σ B → ∃ r' σ', Weak r' r ∧ St.Le σ' σ ∧ K r' σ'
theorem SFin.w {K : AV → St → Prop} {σ : St} {B : BL} {r : AV} (h : K r σ) : SFin K σ B r := ⟨fun _ => ⟨r, σ, .refl _, .refl _, h⟩⟩
theorem SFin.p {r0 : AV} {σ0 σ : St} {B : BL} {r : AV} (hl : St.Le σ0 σ) (hr : r0 = r) : SFin (fun r' s => r' = r0 ∧ s = σ0) σ B r := ⟨fun _ => ⟨r, σ0, .refl _, hl, hr.symm, rfl⟩⟩
theorem SFin.v {r0 : AV} {σ0 σ : St} {B : BL} {r : AV} (hl : St.Le σ0 σ) (hr : Weak r0 r) : SFin (fun r' s => r' = r0 ∧ s = σ0) σ B r := ⟨fun _ => ⟨r0, σ0, hr, hl, rfl, rfl⟩⟩
def xTup (l : List AV) (k : AV → Prop) : Prop :=
  match l with
  | [x] => k x
  | l => k (.tup l)
theorem xTup_eq (l : List AV) (k : AV → Prop) : xTup l k = k (aTuple l) := by
  match l with
  | [] => rfl
  | [x] => rfl
  | x :: y :: l => rfl
def xRet (P : Program) (T : TT) (rs : List ResultVar) (K : AV → St → Prop) (L : SL) (σ : St) (B : BL) : Prop :=
  xRes P T rs L B fun vs => xTup vs fun r => SFin K σ B r
theorem CallW.x {P : Program} {w0 : Base} {T : TT} {f : FuncId} {fn : Func} {c : Code} {m : Nat} {args : List AV} {σ : St} {B : BL} {K : AV → St → Prop} {rs : List ResultVar} (hT : T.ok P) (hm : P.follows .mixedOrders = true) (hf : P.funcs[f]? = some fn) (hb : fn.body = some c) (hn : fn.ntmps = m) (hr : fn.results.toList = rs) (ha : args.length ≤ m) (ho : codeOk m c = true) (hB : Know σ B)
    (h : xOpen (envArgs 0 args) B fun L B => Xc P w0 T m c (xRet P T rs K) (fun _ _ _ _ => False) (xRet P T rs K) L σ B) : CallW P w0 f args σ K := .body hf hb hn ha (by
  rw [args_env]
  rw [xOpen_eq] at h
  subst hr
  refine (Xc_ok hT hm c _ _ _ _ σ B ho hB h).mono fun e E s q => ?_
  have fin : ∀ {E s}, QN (xRet P T fn.results.toList K) E s → ∃ xs r σ', aResults P E s fn.results.toList = some xs ∧ Weak r (aTuple xs) ∧ St.Le σ' s ∧ K r σ' := by
    rintro E s ⟨L, B, rfl, hB, q⟩
    obtain ⟨xs, h1, h2⟩ := xRes_ok hT _ hB q
    rw [xTup_eq] at h2
    obtain ⟨r, σ', h3, h4, h5⟩ := h2.go hB
    exact ⟨xs, r, σ', h1, h3, h4, h5⟩
  cases e with
  | normal => exact ⟨.inl rfl, fin q⟩
  | ret => exact ⟨.inr rfl, fin q⟩
  | exit j => obtain ⟨_, _, _, _, q⟩ := q; exact q.elim
  | goto l => exact q.elim
  | panic c => exact q.elim
  | outgrown => exact q.elim)
theorem CallP.x {P : Program} {w0 : Base} {T : TT} {f : FuncId} {fn : Func} {c : Code} {m : Nat} {args : List AV} {r : AV} {rs : List ResultVar} (hT : T.ok P) (hm : P.follows .mixedOrders = true) (hf : P.funcs[f]? = some fn) (hb : fn.body = some c) (hn : fn.ntmps = m) (hr : fn.results.toList = rs) (ha : args.length ≤ m) (ho : codeOk m c = true)
    (h : ∀ σ, fSL (envArgs 0 args) fun L => Xc P w0 T m c (xRet P T rs fun r' s => r' = r ∧ s = σ) (fun _ _ _ _ => False) (xRet P T rs fun r' s => r' = r ∧ s = σ) L σ []) : CallP P w0 f args r := fun σ => .x hT hm hf hb hn hr ha ho (.nil σ) (by have := h σ; rw [fSL_eq] at this; rw [xOpen_eq]; exact this)
end Go.Al
end
section
set_option linter.unusedVariables false
set_option linter.unusedSimpArgs false
namespace Go.Al
open Go.RowKit

def St.del (σ : St) (b : Nat) : St := { σ with box := fun j => if j = b then none else σ.box j }
theorem del_le (σ : St) (b : Nat) : St.Le (σ.del b) σ := ⟨fun i cs h => by
  simp only [St.del] at h
  split at h
  · cases h
  · exact h, fun p h => h, fun _ _ h => h⟩
theorem del_none (σ : St) (b : Nat) : (σ.del b).box b = none := by simp [St.del]
theorem del_ne {σ : St} {b c : Nat} (h : c ≠ b) : (σ.del b).box c = σ.box c := by simp [St.del, h]
theorem le_del {τ σ : St} {b : Nat} (h : St.Le τ σ) (hb : τ.box b = none) : St.Le τ (σ.del b) := ⟨fun i cs e => by
  have hne : i ≠ b := by rintro rfl; rw [hb] at e; cases e
  rw [del_ne hne]; exact h.box i cs e, fun p e => h.tok p e, h.obj⟩
theorem le_none {τ σ : St} {b : Nat} (h : St.Le τ σ) (hb : σ.box b = none) : τ.box b = none := by
  cases e : τ.box b with
  | none => rfl
  | some cs => rw [h.box b cs e] at hb; cases hb
theorem le_new {τ σ : St} {b : Nat} {cs : List AV} (h : St.Le τ σ) (hb : σ.box b = none) : St.Le τ (σ.setBox b cs) := le_setBox h (le_none h hb)
theorem le_new2 {τ σ : St} {b : Nat} {cs ds : List AV} (h : St.Le τ σ) (hb : σ.box b = none) : St.Le τ ((σ.setBox b cs).setBox b ds) := by rw [setBox_setBox]; exact le_new h hb
theorem Know.add {σ : St} {B : BL} (h : Know σ B) {b : Nat} {cs : List AV} (hb : σ.box b = some cs) (hn : b ∉ B.map (·.1)) : Know σ ((b, cs) :: B) := ⟨fun p hp => by
  rcases List.mem_cons.1 hp with rfl | hp
  · exact hb
  · exact h.has p hp, by rw [List.map_cons, List.nodup_cons]; exact ⟨hn, h.nd⟩⟩
end Go.Al
end
section
set_option linter.unusedVariables false
set_option linter.unusedSimpArgs false
namespace Go.Al
open Go.RowKit
end Go.Al
end
section
set_option linter.unusedVariables false
set_option linter.unusedSimpArgs false
namespace Go.Al
open Go.RowKit
theorem flat_len {sz : Nat} : ∀ {l : List AV}, (∀ x ∈ l, x.cells.length = sz) → (l.flatMap AV.cells).length = l.length * sz
  | [], _ => by simp
  | y :: l, h => by
    rw [List.flatMap_cons, List.length_append, flat_len (fun z hz => h z (by simp [hz])), h y (by simp), List.length_cons, Nat.succ_mul]; omega
theorem setL_app : ∀ (us A J : List AV), us.length ≤ J.length → setL (A ++ J) A.length us = A ++ us ++ J.drop us.length
  | [], A, J, _ => by simp [setL]
  | u :: us, A, [], h => by simp at h
  | u :: us, A, j :: J, h => by
    rw [setL]
    have e : (A ++ j :: J).set A.length u = (A ++ [u]) ++ J := by simp
    have e2 : A.length + 1 = (A ++ [u]).length := by simp
    rw [e, e2, setL_app us (A ++ [u]) J (by simpa using h)]; simp
inductive RowV (σ : St) (sz : Nat) (xs : List AV) : AV → Option Nat → Prop
  | nil (h : xs = []) : RowV σ sz xs .nils none
  | own (b cap : Nat) (junk : List AV) (hb : σ.box b = some (xs.flatMap AV.cells ++ junk)) (hc : xs.length ≤ cap) (hl : cap * sz ≤ (xs.flatMap AV.cells ++ junk).length) : RowV σ sz xs (.msl b 0 xs.length cap) (some b)
theorem RowV.keep {σ s : St} {sz : Nat} {xs : List AV} {v : AV} {r : Option Nat} (h : RowV σ sz xs v r) (k : ∀ b cs, r = some b → σ.box b = some cs → s.box b = some cs) : RowV s sz xs v r := by
  cases h with
  | nil h => exact .nil h
  | own b cap junk hb hc hl => exact .own b cap junk (k b _ rfl hb) hc hl
theorem RowV.set {σ : St} {sz : Nat} {xs : List AV} {v : AV} {r : Option Nat} (h : RowV σ sz xs v r) {c : Nat} {ds : List AV} (hne : r ≠ some c) : RowV (σ.setBox c ds) sz xs v r :=
  h.keep fun b cs e hb => by rw [setBox_ne (fun e2 => hne (by rw [e, e2]))]; exact hb
theorem RowV.has {σ : St} {sz : Nat} {xs : List AV} {v : AV} {b : Nat} (h : RowV σ sz xs v (some b)) : σ.box b ≠ none := by
  cases h with
  | own b cap junk hb hc hl => rw [hb]; simp
section
variable {P : Program} {w0 : Base} {a b sz bytes : TypeId} {u v : AV} {σ : St} {B : BL} {K : AV → St → BL → Prop}
theorem SApp.row {xs : List AV} {y : AV} {r : Option Nat} {n' : Nat} (hn' : xs.length + 1 = n') (hu : RowV σ sz xs u r) (hy : aSrc sz v = some [y]) [hi : AppI P a b sz bytes] (hsz : ∀ x ∈ xs, x.cells.length = sz) (hys : y.cells.length = sz) (hf : (xs.length + 1) * bytes ≤ 140737488355328) (hB : ∀ p ∈ B, r ≠ some p.1)
    (k : ∀ b' cap' σ', RowV σ' sz (xs ++ [y]) (.msl b' 0 n' cap') (some b') → (r = some b' ∨ σ.box b' = none) → (∀ i cs, r ≠ some i → σ.box i = some cs → σ'.box i = some cs) → (σ'.tok = σ.tok ∧ σ'.obj = σ.obj) → K (.msl b' 0 n' cap') σ' B) : SApp P w0 a b u v σ B K := ⟨fun hBk o E s x ho hs hx => by
  subst hn'
  have e1 : (xs ++ [y]).flatMap AV.cells = xs.flatMap AV.cells ++ y.cells := by simp
  have e0 : ([y] : List AV).flatMap AV.cells = y.cells := by simp
  have el : (xs ++ [y]).length = xs.length + 1 := by simp
  have hk0 : ∀ (σ' : St), (∀ i cs, r ≠ some i → σ.box i = some cs → σ'.box i = some cs) → Know σ' B := fun σ' h => ⟨fun p hp => h _ _ (hB p hp) (hBk.has p hp), hBk.nd⟩
  cases hu with
  | nil h =>
    subst h
    refine (SApp.n (P := P) (w0 := w0) (a := a) (b := b) (u := .nils) (v := v) (σ := σ) (B := B) (K := fun r s _ => ∃ B', Know s B' ∧ K r s B') rfl hy (by simp) (by simpa using hf) fun b' cap h1 h2 => ?_).go hBk o E s x ho hs hx |>.mono fun r s ⟨_, _, h⟩ => h
    have h2' : 1 ≤ cap := by simpa using h2
    refine ⟨B, hk0 _ fun i cs _ hi => ?_, k b' cap _ (.own b' cap (List.replicate ((cap - 1) * sz) .und) ?_ (by simpa using h2') ?_) (.inr h1) (fun i cs _ hi => ?_) ⟨rfl, rfl⟩⟩
    · rw [setBox_ne (by rintro rfl; rw [h1] at hi; cases hi)]; exact hi
    · simp only [List.nil_append, List.length_singleton]; exact setBox_same
    · rw [e1, List.length_append, List.length_append, List.length_replicate, hys]
      obtain ⟨c, rfl⟩ : ∃ c, cap = c + 1 := ⟨cap - 1, by omega⟩
      simp [Nat.succ_mul]; omega
    · rw [setBox_ne (by rintro rfl; rw [h1] at hi; cases hi)]; exact hi
  | own b0 cap junk hb hc hl =>
    have hfl := flat_len hsz
    have hjl : (xs.flatMap AV.cells ++ junk).length = xs.length * sz + junk.length := by rw [List.length_append, hfl]
    obtain ⟨e, inf, z, T, rfl, rfl, hpos⟩ := hi.h
    subst hx
    have hfit : AppFits inf (xs.length + [y].length) := ⟨by simpa using hf, by
      have : xs.length + 1 ≤ (xs.length + 1) * inf.bytes := Nat.le_mul_of_pos_right _ hpos
      simp only [maxLen, List.length_singleton]; omega⟩
    refine w_appendM T s x ho hs hb hl hc hy hfit (fun h => ?_) fun b' cap' h1 h2 => ?_
    · have h' : xs.length + 1 ≤ cap := by simpa using h
      have hmul : (xs.length + 1) * inf.size ≤ cap * inf.size := Nat.mul_le_mul_right _ h'
      rw [Nat.succ_mul] at hmul
      have hs' : setL (xs.flatMap AV.cells ++ junk) (xs.length * inf.size) ([y].flatMap AV.cells) = (xs ++ [y]).flatMap AV.cells ++ junk.drop y.cells.length := by
        rw [← hfl, e0, setL_app _ _ _ (by omega), e1]
      rw [hs']
      refine ⟨B, hk0 _ fun i cs hi h0 => ?_, k b0 cap _ ?_ (.inl rfl) (fun i cs hi h0 => ?_) ⟨rfl, rfl⟩⟩
      · rw [setBox_ne (fun e => hi (by rw [e]))]; exact h0
      · have := RowV.own (σ := σ.setBox b0 ((xs ++ [y]).flatMap AV.cells ++ junk.drop y.cells.length)) (sz := inf.size) (xs := xs ++ [y]) b0 cap (junk.drop y.cells.length) setBox_same (by rw [el]; exact h') (by
          rw [e1, List.length_append, List.length_append, List.length_drop, hfl]; omega)
        rwa [el] at this
      · rw [setBox_ne (fun e => hi (by rw [e]))]; exact h0
    · have h2' : xs.length + 1 ≤ cap' := by simpa using h2
      have ht : (xs.flatMap AV.cells ++ junk).take (xs.length * inf.size) = xs.flatMap AV.cells := by rw [← hfl, List.take_left']; rfl
      rw [ht, e0, ← e1]
      refine ⟨B, hk0 _ fun i cs hi h0 => ?_, k b' cap' _ ?_ (.inr h1) (fun i cs hi h0 => ?_) ⟨rfl, rfl⟩⟩
      · rw [setBox_ne (by rintro rfl; rw [h1] at h0; cases h0)]; exact h0
      · have := RowV.own (σ := σ.setBox b' ((xs ++ [y]).flatMap AV.cells ++ List.replicate ((cap' - (xs.length + [y].length)) * inf.size) .und)) (sz := inf.size) (xs := xs ++ [y]) b' cap' _ setBox_same (by rw [el]; exact h2') (by
          rw [e1, List.length_append, List.length_append, List.length_replicate, hfl, hys, List.length_singleton]
          obtain ⟨c, rfl⟩ : ∃ c, cap' = xs.length + 1 + c := ⟨cap' - (xs.length + 1), by omega⟩
          rw [Nat.add_sub_cancel_left, Nat.add_mul, Nat.succ_mul]; omega)
        rwa [el] at this
      · rw [setBox_ne (by rintro rfl; rw [h1] at h0; cases h0)]; exact h0⟩
end
end Go.Al
end
section
set_option linter.unusedVariables false
set_option linter.unusedSimpArgs false
namespace Go.Al
open Go.RowKit
section
variable {P : Program} {w0 : Base} {ops : Array Oper} {kd : Kd}
def orderOk2 (ops : Array Oper) (kind : Nat → Nat) (pre : List Nat) (p q : Nat) (post : List Nat) : Bool :=
  orderOk ops (fun _ => 0) (pre ++ p :: q :: post) && orderOk ops (fun _ => 0) (pre ++ q :: p :: post) && pairsOk ops kind (masks ops.toList []) (pre ++ p :: post) && pairsOk ops kind (masks ops.toList []) (pre ++ q :: post) && post.all fun i => ((masks ops.toList []).getD i 0).testBit p
end
section
variable {P : Program} {w0 : Base} {T : TT} {n id : Nat} {l : List Oper} {k : SL → St → BL → Prop} {X : Nat → SL → St → BL → Prop} {R : SL → St → BL → Prop} {L : SL} {σ : St} {B : BL}
end
end Go.Al
end
