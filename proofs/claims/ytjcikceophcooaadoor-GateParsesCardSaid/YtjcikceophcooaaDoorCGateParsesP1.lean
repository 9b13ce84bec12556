/- The law GateParses returns true for every input, and its arguments read as before: the tied card. No conditions. This is part 1 of 7 of its proof; the parts are read in order. No conditions. -/
import Derived.Below
import Derived.Orders
import Derived.WalkKit
import Derived.RangeFuncOwn
import Derived.Laws.Cells
import Derived.Laws.BytesString
import Derived.OrdersIn
import Derived.RangeFuncIn
import Derived.RangeFuncLeaves
import Derived.RangeFuncRecord
import Derived.Scope
import Derived.IntWalk
section
set_option linter.unusedVariables false
set_option linter.unusedSimpArgs false
namespace Go.Al
open Go.RowKit

inductive Tok where
  | no | full | own (t : Nat)

inductive AV where
  | und
  | int (k : IntKind) (n : Int)
  | bool (b : Bool)
  | str (s : List UInt8)
  | nils
  | slc (sz : Nat) (xs : List AV) (t : Tok)
  | msl (b off n cap : Nat)
  | agg (cs : List AV)
  | tup (vs : List AV)
  | ptr (b off : Nat)
  | nilp
  | vp (x : AV)
  | fn (f : Fn) (first cap : List AV)
  | nilfn
  | ifc (t : TypeId) (x : AV)
  | nilifc
  | mp (m : Nat)
  | it (m : Nat)
  | nilmp
instance : Inhabited AV := ⟨.und⟩

def AV.cells : AV → List AV
  | .agg cs => cs
  | x => [x]
def AV.one : AV → Bool
  | .und | .agg _ | .tup _ => false
  | _ => true

structure Gh where
  base : Nat
  box : Nat → Option Nat
  tok : Nat → Option (Nat × Nat × Nat)
  imm : Nat → Nat → Prop
def Gh.still (G : Gh) (b o : Nat) : Prop := b < G.base ∨ G.imm b o

def bstr (l : List UInt8) : Value := .string ⟨l.toArray⟩

def Lies (G : Gh) (w : World) (A : Option Addr) (vs : List Value) : Prop :=
  ∀ k v, vs[k]? = some v → ∃ b o, A = some ⟨b, o, none⟩ ∧ G.still b (o + k) ∧ w.cell? ⟨b, o + k, none⟩ = some v
def TokOk (G : Gh) (t : Tok) (A : Option Addr) (sz n cap : Nat) : Prop :=
  match t with
  | .no => True
  | .full => cap = n
  | .own t => ∃ b o lim, A = some ⟨b, o, none⟩ ∧ G.tok t = some (b, o + n * sz, lim) ∧ o + cap * sz ≤ lim

mutual
inductive Rel (G : Gh) (w : World) : AV → Value → Prop
  | und (v : Value) : Rel G w .und v
  | int (k : IntKind) (n : Int) : Rel G w (.int k n) (.int k n)
  | bool (b : Bool) : Rel G w (.bool b) (.bool b)
  | str (l : List UInt8) : Rel G w (.str l) (.string ⟨l.toArray⟩)
  | nils : Rel G w .nils (.slice none 0 0)
  | slc {sz : Nat} {xs : List AV} {t : Tok} {A : Option Addr} {n cap : Nat} {vs : List Value} (hn : xs.length = n) (hc : n ≤ cap) (hm : cap ≤ maxLen)
      (hsz : ∀ x ∈ xs, x.cells.length = sz ∧ ∀ c ∈ x.cells, c.one = true) (hr : RelL G w (xs.flatMap AV.cells) vs) (hl : Lies G w A vs) (ht : TokOk G t A sz n cap) : Rel G w (.slc sz xs t) (.slice A n cap)
  | msl {b off n m cap : Nat} (hb : G.box b = some m) (hc : n ≤ cap) (hm : cap ≤ maxLen) : Rel G w (.msl b off n cap) (.slice (some ⟨m, off, none⟩) n cap)
  | agg {cs : List AV} {vs : List Value} (h1 : ∀ c ∈ cs, c.one = true) (hr : RelL G w cs vs) : Rel G w (.agg cs) (.agg vs.toArray)
  | tup {cs : List AV} {vs : List Value} (hr : RelL G w cs vs) : Rel G w (.tup cs) (.tuple vs.toArray)
  | ptr {b off m : Nat} (hb : G.box b = some m) : Rel G w (.ptr b off) (.pointer (some ⟨m, off, none⟩))
  | nilp : Rel G w .nilp (.pointer none)
  | vp {x : AV} {b o : Nat} {vs : List Value} (h1 : ∀ c ∈ x.cells, c.one = true) (hr : RelL G w x.cells vs) (hl : Lies G w (some ⟨b, o, none⟩) vs) : Rel G w (.vp x) (.pointer (some ⟨b, o, none⟩))
  | fn {f : Fn} {first cap : List AV} {vs us : List Value} (h1 : RelL G w first vs) (h2 : RelL G w cap us) : Rel G w (.fn f first cap) (.func f vs.toArray us.toArray)
  | nilfn : Rel G w .nilfn .nilFunc
  | ifc {t : TypeId} {x : AV} {v : Value} (hr : Rel G w x v) : Rel G w (.ifc t x) (.iface t v)
  | nilifc : Rel G w .nilifc .nilIface
  | mp {m : Nat} : Rel G w (.mp m) (.map (some m))
  | it {m : Nat} : Rel G w (.it m) (.pointer (some ⟨m, 0, none⟩))
  | nilmp : Rel G w .nilmp (.map none)
inductive RelL (G : Gh) (w : World) : List AV → List Value → Prop
  | nil : RelL G w [] []
  | cons {a : AV} {v : Value} {as : List AV} {vs : List Value} (h : Rel G w a v) (t : RelL G w as vs) : RelL G w (a :: as) (v :: vs)
end

structure Sol (w w' : World) : Prop where
  size : w.heap.size ≤ w'.heap.size
  dfr : ∀ (k : Nat) (ds : Option (List Deferred)), w.heap[k]? = some (.deferred ds) → w'.heap[k]? = some (.deferred ds)
  lp : ∀ (k : Nat) (r : Loop), w.heap[k]? = some (.loop r) → ∃ r', w'.heap[k]? = some (.loop r')
theorem Sol.refl (w : World) : Sol w w := ⟨Nat.le_refl _, fun _ _ h => h, fun _ r h => ⟨r, h⟩⟩
theorem Sol.trans {a b c : World} (h : Sol a b) (k : Sol b c) : Sol a c := ⟨Nat.le_trans h.size k.size, fun i d e => k.dfr i d (h.dfr i d e), fun i r e => by
  obtain ⟨r1, e1⟩ := h.lp i r e
  exact k.lp i r1 e1⟩
theorem Sol.of {w w' : World} (hs : w.heap.size ≤ w'.heap.size) (h : ∀ (k : Nat) (o : Obj), w.heap[k]? = some o → o.isCells = false → w'.heap[k]? = some o) : Sol w w' := ⟨hs, fun k ds e => h k _ e rfl, fun k r e => ⟨r, h k _ e rfl⟩⟩
structure Ext (G : Gh) (w : World) (G' : Gh) (w' : World) : Prop where
  base : G'.base = G.base
  box : ∀ i m, G.box i = some m → G'.box i = some m
  tok : ∀ i m, G.tok i = some m → G'.tok i = some m
  imm : ∀ b o, G.imm b o → G'.imm b o
  keep : ∀ b o v, G.still b o → w.cell? ⟨b, o, none⟩ = some v → w'.cell? ⟨b, o, none⟩ = some v
  sol : Sol w w'
theorem Ext.refl (G : Gh) (w : World) : Ext G w G w := ⟨rfl, fun _ _ h => h, fun _ _ h => h, fun _ _ h => h, fun _ _ _ _ h => h, .refl w⟩
theorem Ext.still {G G' : Gh} {w w' : World} (h : Ext G w G' w') {b o : Nat} (hs : G.still b o) : G'.still b o := by
  rcases hs with hs | hs
  · exact .inl (by rw [h.base]; exact hs)
  · exact .inr (h.imm _ _ hs)
theorem Ext.trans {G G1 G2 : Gh} {w w1 w2 : World} (h : Ext G w G1 w1) (k : Ext G1 w1 G2 w2) : Ext G w G2 w2 :=
  ⟨k.base.trans h.base, fun i m e => k.box i m (h.box i m e), fun i m e => k.tok i m (h.tok i m e), fun b o e => k.imm b o (h.imm b o e),
    fun b o v hs hc => k.keep b o v (h.still hs) (h.keep b o v hs hc), h.sol.trans k.sol⟩
structure Ext0 (G : Gh) (w : World) (G' : Gh) (w' : World) : Prop where
  base : G'.base = G.base
  box : ∀ i m, G.box i = some m → G'.box i = some m
  tok : ∀ i m, G.tok i = some m → G'.tok i = some m
  imm : ∀ b o, G.imm b o → G'.imm b o
  keep : ∀ b o v, G.still b o → w.cell? ⟨b, o, none⟩ = some v → w'.cell? ⟨b, o, none⟩ = some v
theorem Ext.e0 {G G' : Gh} {w w' : World} (h : Ext G w G' w') : Ext0 G w G' w' := ⟨h.base, h.box, h.tok, h.imm, h.keep⟩
theorem Ext0.still {G G' : Gh} {w w' : World} (h : Ext0 G w G' w') {b o : Nat} (hs : G.still b o) : G'.still b o := by
  rcases hs with hs | hs
  · exact .inl (by rw [h.base]; exact hs)
  · exact .inr (h.imm _ _ hs)
theorem Lies.ext0 {G G' : Gh} {w w' : World} {A : Option Addr} {vs : List Value} (h : Ext0 G w G' w') (hl : Lies G w A vs) : Lies G' w' A vs := fun k v hk => by
  obtain ⟨b, o, e, hs, hc⟩ := hl k v hk
  exact ⟨b, o, e, h.still hs, h.keep _ _ _ hs hc⟩
theorem TokOk.ext0 {G G' : Gh} {w w' : World} {t : Tok} {A : Option Addr} {sz n cap : Nat} (h : Ext0 G w G' w') (hl : TokOk G t A sz n cap) : TokOk G' t A sz n cap := by
  cases t with
  | no => trivial
  | full => exact hl
  | own t =>
    obtain ⟨b, o, lim, e, ht, hlim⟩ := hl
    exact ⟨b, o, lim, e, h.tok _ _ ht, hlim⟩
mutual
theorem Rel.ext0 {G G' : Gh} {w w' : World} (e : Ext0 G w G' w') : ∀ {x : AV} {v : Value}, Rel G w x v → Rel G' w' x v
  | _, _, .und v => .und v
  | _, _, .int k n => .int k n
  | _, _, .bool b => .bool b
  | _, _, .str l => .str l
  | _, _, .nils => .nils
  | _, _, .slc hn hc hm hsz hr hl ht => .slc hn hc hm hsz (RelL.ext0 e hr) (hl.ext0 e) (ht.ext0 e)
  | _, _, .msl hb hc hm => .msl (e.box _ _ hb) hc hm
  | _, _, .agg h1 hr => .agg h1 (RelL.ext0 e hr)
  | _, _, .tup hr => .tup (RelL.ext0 e hr)
  | _, _, .ptr hb => .ptr (e.box _ _ hb)
  | _, _, .nilp => .nilp
  | _, _, .vp h1 hr hl => .vp h1 (RelL.ext0 e hr) (hl.ext0 e)
  | _, _, .fn h1 h2 => .fn (RelL.ext0 e h1) (RelL.ext0 e h2)
  | _, _, .nilfn => .nilfn
  | _, _, .ifc hr => .ifc (Rel.ext0 e hr)
  | _, _, .nilifc => .nilifc
  | _, _, .mp => .mp
  | _, _, .it => .it
  | _, _, .nilmp => .nilmp
theorem RelL.ext0 {G G' : Gh} {w w' : World} (e : Ext0 G w G' w') : ∀ {xs : List AV} {vs : List Value}, RelL G w xs vs → RelL G' w' xs vs
  | _, _, .nil => .nil
  | _, _, .cons h t => .cons (Rel.ext0 e h) (RelL.ext0 e t)
end
theorem Lies.ext {G G' : Gh} {w w' : World} {A : Option Addr} {vs : List Value} (h : Ext G w G' w') (hl : Lies G w A vs) : Lies G' w' A vs := hl.ext0 h.e0
theorem TokOk.ext {G G' : Gh} {w w' : World} {t : Tok} {A : Option Addr} {sz n cap : Nat} (h : Ext G w G' w') (hl : TokOk G t A sz n cap) : TokOk G' t A sz n cap := hl.ext0 h.e0
theorem Rel.ext {G G' : Gh} {w w' : World} (e : Ext G w G' w') {x : AV} {v : Value} (h : Rel G w x v) : Rel G' w' x v := h.ext0 e.e0
theorem RelL.ext {G G' : Gh} {w w' : World} (e : Ext G w G' w') {xs : List AV} {vs : List Value} (h : RelL G w xs vs) : RelL G' w' xs vs := h.ext0 e.e0
theorem RelL.length {G : Gh} {w : World} : ∀ {xs : List AV} {vs : List Value}, RelL G w xs vs → vs.length = xs.length
  | _, _, .nil => rfl
  | _, _, .cons _ t => by simp [t.length]
theorem RelL.get {G : Gh} {w : World} : ∀ {xs : List AV} {vs : List Value} {i : Nat} {x : AV}, RelL G w xs vs → xs[i]? = some x → ∃ v, vs[i]? = some v ∧ Rel G w x v
  | _, _, i, x, .nil, h => by simp at h
  | _, _, 0, x, .cons h t, e => by simp at e; subst e; exact ⟨_, rfl, h⟩
  | _, _, i + 1, x, .cons h t, e => by simpa using t.get (i := i) (by simpa using e)
theorem RelL.append {G : Gh} {w : World} : ∀ {xs ys : List AV} {vs us : List Value}, RelL G w xs vs → RelL G w ys us → RelL G w (xs ++ ys) (vs ++ us)
  | _, _, _, _, .nil, k => k
  | _, _, _, _, .cons h t, k => .cons h (t.append k)
theorem RelL.take {G : Gh} {w : World} : ∀ {xs : List AV} {vs : List Value} (n : Nat), RelL G w xs vs → RelL G w (xs.take n) (vs.take n)
  | _, _, 0, _ => by simpa using RelL.nil
  | _, _, _ + 1, .nil => by simpa using RelL.nil
  | _, _, n + 1, .cons h t => by simpa using RelL.cons h (t.take n)
theorem RelL.drop {G : Gh} {w : World} : ∀ {xs : List AV} {vs : List Value} (n : Nat), RelL G w xs vs → RelL G w (xs.drop n) (vs.drop n)
  | _, _, 0, h => by simpa using h
  | _, _, _ + 1, .nil => by simpa using RelL.nil
  | _, _, n + 1, .cons h t => by simpa using t.drop n
theorem RelL.set {G : Gh} {w : World} {x : AV} {v : Value} (hx : Rel G w x v) : ∀ {xs : List AV} {vs : List Value} (i : Nat), RelL G w xs vs → RelL G w (xs.set i x) (vs.set i v)
  | _, _, _, .nil => by simpa using RelL.nil
  | _, _, 0, .cons h t => by simpa using RelL.cons hx t
  | _, _, i + 1, .cons h t => by simpa using RelL.cons h (t.set hx i)
theorem RelL.replicate {G : Gh} {w : World} {x : AV} {v : Value} (hx : Rel G w x v) : ∀ n, RelL G w (List.replicate n x) (List.replicate n v)
  | 0 => .nil
  | n + 1 => .cons hx (RelL.replicate hx n)
theorem Rel.cells {G : Gh} {w : World} {x : AV} {v : Value} (h : Rel G w x v) (hx : x.one = true ∨ ∃ cs, x = .agg cs) : RelL G w x.cells v.cells.toList := by
  rcases hx with hx | ⟨cs, rfl⟩
  · cases h <;> simp [AV.one] at hx <;> simp only [AV.cells, Value.cells, List.toList_toArray] <;> exact .cons (by constructor <;> assumption) .nil
  · cases h with
    | agg h1 hr => simpa [AV.cells, Value.cells] using hr
theorem Rel.one {G : Gh} {w : World} {x : AV} {v : Value} (h : Rel G w x v) (hx : x.one = true) : (∀ c, v ≠ .agg c) ∧ (∀ c, v ≠ .tuple c) := by
  cases h <;> simp [AV.one] at hx <;> exact ⟨fun c => (by simp), fun c => (by simp)⟩
end Go.Al
end
section
set_option linter.unusedVariables false
set_option linter.unusedSimpArgs false
namespace Go.Al
open Go.RowKit

inductive Ob where
  | loop (r : Loop) (E : Nat → AV)
  | map (es : List (AV × AV))
  | str (s : List UInt8) (i : Nat)
structure St where
  box : Nat → Option (List AV)
  tok : Nat → Bool
  obj : Nat → Option Ob
def St.setBox (σ : St) (i : Nat) (cs : List AV) : St := { σ with box := fun j => if j = i then some cs else σ.box j }
def St.setTok (σ : St) (i : Nat) (b : Bool) : St := { σ with tok := fun j => if j = i then b else σ.tok j }
def St.setObj (σ : St) (i : Nat) (o : Option Ob) : St := { σ with obj := fun j => if j = i then o else σ.obj j }
def St.empty : St := ⟨fun _ => none, fun _ => false, fun _ => none⟩

def tagOf (i : Nat) : Option Nat := if i % 4096 = 0 then none else some (i % 4096)
structure NoImm (G : Gh) (m i T : Nat) : Prop where
  all : ∀ o, ¬ G.imm m o
  tag : ∀ t, tagOf i = some t → T = t
instance {G : Gh} {m i T : Nat} : CoeFun (NoImm G m i T) fun _ => ∀ o, ¬ G.imm m o := ⟨NoImm.all⟩
structure BoxOk (G : Gh) (w : World) (i : Nat) (cs : List AV) : Prop where
  ex : ∃ m c T, G.box i = some m ∧ G.base ≤ m ∧ w.heap[m]? = some (.cells c T (0, 0)) ∧ RelL G w cs c.toList ∧ NoImm G m i T
structure TokLive (G : Gh) (w : World) (t : Nat) : Prop where
  ex : ∃ m e lim c T fr, G.tok t = some (m, e, lim) ∧ G.base ≤ m ∧ w.heap[m]? = some (.cells c T fr) ∧ lim ≤ c.size ∧ (fr = (0, 0) ∨ c.size ≤ fr.1) ∧ ∀ o, e ≤ o → ¬ G.imm m o

structure Base where
  w : World
instance : Coe Base World := ⟨Base.w⟩
instance : Coe World Base := ⟨fun w => ⟨w⟩⟩
inductive ObOk (G : Gh) (w : World) (l : Nat) : Ob → Prop
  | loop {r : Loop} {E : Nat → AV} (hb : G.base ≤ l) (here : w.heap[l]? = some (.loop r)) (rel : ∀ t, Rel G w (E t) (r.tmps.getD t undef)) : ObOk G w l (.loop r E)
  | map {es : List (AV × AV)} {en : Array MapEntry} {ck : Nat} (hb : G.base ≤ l) (here : w.heap[l]? = some (.map en ck)) (hk : RelL G w (es.map (·.1)) (en.toList.map (·.key))) (hv : RelL G w (es.map (·.2)) (en.toList.map (·.val)))
      (hc : ck = en.size) (hn : ∀ (i : Nat) (e : MapEntry), en[i]? = some e → e.born = i) : ObOk G w l (.map es)
  | str {s : List UInt8} {i : Nat} (hb : G.base ≤ l) (here : w.heap[l]? = some (.stringIter ⟨s.toArray⟩ i)) : ObOk G w l (.str s i)
theorem ObOk.ext {G G' : Gh} {w w' : World} {l : Nat} {o : Ob} (h : ObOk G w l o) (e : Ext G w G' w') (hw : ∀ (k : Nat) (o : Obj), w.heap[k]? = some o → o.isCells = false → w'.heap[k]? = some o) : ObOk G' w' l o := by
  cases h with
  | loop hb here rel => exact .loop (by rw [e.base]; exact hb) (hw _ _ here rfl) fun t => (rel t).ext e
  | map hb here hk hv hc hn => exact .map (by rw [e.base]; exact hb) (hw _ _ here rfl) (hk.ext e) (hv.ext e) hc hn
  | str hb here => exact .str (by rw [e.base]; exact hb) (hw _ _ here rfl)
structure Inv (w0 : Base) (G : Gh) (σ : St) (w : World) : Prop where
  base : G.base = w0.w.heap.size
  old : Below G.base w0.w w
  box : ∀ i cs, σ.box i = some cs → BoxOk G w i cs
  binj : ∀ i j m, (σ.box i).isSome = true → (σ.box j).isSome = true → G.box i = some m → G.box j = some m → i = j
  tok : ∀ t, σ.tok t = true → TokLive G w t
  tinj : ∀ s t m e l e' l', σ.tok s = true → σ.tok t = true → G.tok s = some (m, e, l) → G.tok t = some (m, e', l') → s = t
  apart : ∀ i t m e l, (σ.box i).isSome = true → σ.tok t = true → G.box i = some m → G.tok t ≠ some (m, e, l)
  immlt : ∀ b o, G.imm b o → b < w.heap.size
  boxlt : ∀ i m, G.box i = some m → m < w.heap.size
  toklt : ∀ i m e l, G.tok i = some (m, e, l) → m < w.heap.size
  fresh : ∃ N, ∀ i, N ≤ i → G.box i = none ∧ G.tok i = none
  obj : ∀ l o, σ.obj l = some o → ObOk G w l o

theorem Inv.size {w0 : Base} {G : Gh} {σ : St} {w : World} (h : Inv w0 G σ w) : G.base ≤ w.heap.size := by
  have := h.old.size
  rw [h.base]; exact this

structure St.Le (σ' σ : St) : Prop where
  box : ∀ i cs, σ'.box i = some cs → σ.box i = some cs
  tok : ∀ t, σ'.tok t = true → σ.tok t = true
  obj : ∀ l o, σ'.obj l = some o → σ.obj l = some o
theorem St.Le.refl (σ : St) : St.Le σ σ := ⟨fun _ _ h => h, fun _ h => h, fun _ _ h => h⟩
theorem Inv.drop {w0 : Base} {G : Gh} {σ σ' : St} {w : World} (h : Inv w0 G σ w) (l : St.Le σ' σ) : Inv w0 G σ' w := by
  have hb : ∀ i, (σ'.box i).isSome = true → (σ.box i).isSome = true := fun i hi => by
    obtain ⟨cs, hc⟩ := Option.isSome_iff_exists.1 hi
    rw [l.box i cs hc]; rfl
  exact ⟨h.base, h.old, fun i cs hc => h.box i cs (l.box i cs hc), fun i j m hi hj => h.binj i j m (hb i hi) (hb j hj), fun t ht => h.tok t (l.tok t ht),
    fun s t m e l1 e' l' hs ht => h.tinj s t m e l1 e' l' (l.tok s hs) (l.tok t ht), fun i t m e l1 hi ht => h.apart i t m e l1 (hb i hi) (l.tok t ht), h.immlt, h.boxlt, h.toklt, h.fresh, fun i o hi => h.obj i o (l.obj i o hi)⟩

theorem cell_block {w : World} {b o : Nat} {c : Array Value} {T : TypeId} {fr : Nat × Nat} (h : w.heap[b]? = some (.cells c T fr)) : w.cell? ⟨b, o, none⟩ = c[o]? := by
  simp [World.cell?, h]
theorem cell_same {w w' : World} {b o : Nat} (h : w'.heap[b]? = w.heap[b]?) : w'.cell? ⟨b, o, none⟩ = w.cell? ⟨b, o, none⟩ := by
  simp [World.cell?, h]

structure Alike0 (w w' : World) : Prop where
  heap : w'.heap = w.heap
  os : w'.os = w.os
  tape : w'.tape = w.tape
  output : w'.output = w.output
theorem Alike0.ext {G : Gh} {w w' : World} (h : Alike0 w w') : Ext G w G w' :=
  ⟨rfl, fun _ _ e => e, fun _ _ e => e, fun _ _ e => e, fun b o v _ hc => by rw [cell_same (w := w) (w' := w') (by rw [h.heap])]; exact hc, .of (by rw [h.heap]; exact Nat.le_refl _) fun k o hk _ => by rw [h.heap]; exact hk⟩
theorem Alike0.inv {w0 : Base} {G : Gh} {σ : St} {w w' : World} (h : Alike0 w w') (hI : Inv w0 G σ w) : Inv w0 G σ w' := by
  have e : Ext G w G w' := h.ext
  refine ⟨hI.base, hI.old.trans ⟨h.os, h.tape, h.output, by rw [h.heap]; exact Nat.le_refl _, fun k _ => by rw [h.heap]⟩, ?_, hI.binj, ?_, hI.tinj, hI.apart, ?_, ?_, ?_, hI.fresh, fun l o hr => (hI.obj l o hr).ext h.ext (fun k o hk _ => by rw [h.heap]; exact hk)⟩
  · intro i cs hc
    obtain ⟨m, c, T, h1, h2, h3, h4, h5⟩ := (hI.box i cs hc).ex
    exact ⟨m, c, T, h1, h2, by rw [h.heap]; exact h3, h4.ext e, h5⟩
  · intro t ht
    obtain ⟨m, e', lim, c, T, fr, h1, h2, h3, h4, h5, h6⟩ := (hI.tok t ht).ex
    exact ⟨m, e', lim, c, T, fr, h1, h2, by rw [h.heap]; exact h3, h4, h5, h6⟩
  · intro b o hb; rw [h.heap]; exact hI.immlt b o hb
  · intro i m hb; rw [h.heap]; exact hI.boxlt i m hb
  · intro i m e' l hb; rw [h.heap]; exact hI.toklt i m e' l hb

structure Grows (G : Gh) (w : World) (G' : Gh) (w' : World) (o : Obj) : Prop where
  heap : w'.heap = w.heap.push o
  os : w'.os = w.os
  tape : w'.tape = w.tape
  output : w'.output = w.output
  base : G'.base = G.base
  box : ∀ i m, G.box i = some m → G'.box i = some m
  box' : ∀ i m, G'.box i = some m → G.box i = some m ∨ m = w.heap.size
  tok : ∀ i m, G.tok i = some m → G'.tok i = some m
  tok' : ∀ i m e l, G'.tok i = some (m, e, l) → G.tok i = some (m, e, l) ∨ m = w.heap.size
  imm : ∀ b o, G.imm b o → G'.imm b o
  imm' : ∀ b o, G'.imm b o → G.imm b o ∨ b = w.heap.size
  fresh : (∃ N, ∀ i, N ≤ i → G.box i = none ∧ G.tok i = none) → ∃ N, ∀ i, N ≤ i → G'.box i = none ∧ G'.tok i = none
theorem Grows.get {G : Gh} {w : World} {G' : Gh} {w' : World} {o : Obj} (h : Grows G w G' w' o) {k : Nat} (hk : k < w.heap.size) : w'.heap[k]? = w.heap[k]? := by
  rw [h.heap, Array.getElem?_push, if_neg (by omega)]
theorem Grows.new {G : Gh} {w : World} {G' : Gh} {w' : World} {o : Obj} (h : Grows G w G' w' o) : w'.heap[w.heap.size]? = some o := by
  rw [h.heap]; simp
theorem Grows.size {G : Gh} {w : World} {G' : Gh} {w' : World} {o : Obj} (h : Grows G w G' w' o) : w'.heap.size = w.heap.size + 1 := by rw [h.heap]; simp
theorem lt_of_get {w : World} {b : Nat} {o : Obj} (h : w.heap[b]? = some o) : b < w.heap.size := by
  obtain ⟨h, _⟩ := Array.getElem?_eq_some_iff.1 h
  exact h
theorem lt_of_cell {w : World} {b o : Nat} {v : Value} (h : w.cell? ⟨b, o, none⟩ = some v) : b < w.heap.size := by
  unfold World.cell? at h
  split at h
  · rename_i hb; exact lt_of_get hb
  · simp at h
theorem Grows.ext {G : Gh} {w : World} {G' : Gh} {w' : World} {o : Obj} (h : Grows G w G' w' o) : Ext G w G' w' :=
  ⟨h.base, h.box, h.tok, h.imm, fun b q v _ hc => by
    rw [cell_same (h.get (lt_of_cell hc))]; exact hc, .of (by rw [h.size]; omega) fun k o hk _ => (h.get (lt_of_get hk)).trans hk⟩
theorem Grows.inv {w0 : Base} {G : Gh} {σ : St} {w : World} {G' : Gh} {w' : World} {o : Obj} (h : Grows G w G' w' o) (hI : Inv w0 G σ w) : Inv w0 G' σ w' := by
  have e := h.ext
  refine ⟨h.base.trans hI.base, by
      rw [h.base]
      exact hI.old.trans ⟨h.os, h.tape, h.output, by rw [h.size]; omega, fun k hk => h.get (by have := hI.size; omega)⟩, ?_, ?_, ?_, ?_, ?_, ?_, ?_, ?_, h.fresh hI.fresh, fun l o hr => (hI.obj l o hr).ext h.ext (fun k o hk _ => (h.get (lt_of_get hk)).trans hk)⟩
  · intro i cs hc
    obtain ⟨m, c, T, h1, h2, h3, h4, h5⟩ := (hI.box i cs hc).ex
    refine ⟨m, c, T, h.box i m h1, by rw [h.base]; exact h2, by rw [h.get (lt_of_get h3)]; exact h3, h4.ext e, ⟨fun q hq => ?_, h5.tag⟩⟩
    rcases h.imm' m q hq with hq | hq
    · exact h5 q hq
    · have := lt_of_get h3; omega
  · intro i j m hi hj e1 e2
    obtain ⟨c1, hc1⟩ := Option.isSome_iff_exists.1 hi
    obtain ⟨c2, hc2⟩ := Option.isSome_iff_exists.1 hj
    obtain ⟨m1, _, _, f1, _⟩ := (hI.box i c1 hc1).ex
    obtain ⟨m2, _, _, f2, _⟩ := (hI.box j c2 hc2).ex
    have g1 := h.box i m1 f1
    have g2 := h.box j m2 f2
    rw [g1] at e1; rw [g2] at e2
    cases e1; cases e2
    exact hI.binj i j _ hi hj f1 f2
  · intro t ht
    obtain ⟨m, e', lim, c, T, fr, h1, h2, h3, h4, h5, h6⟩ := (hI.tok t ht).ex
    refine ⟨m, e', lim, c, T, fr, h.tok t _ h1, by rw [h.base]; exact h2, by rw [h.get (lt_of_get h3)]; exact h3, h4, h5, fun q hq hi => ?_⟩
    rcases h.imm' m q hi with hi | hi
    · exact h6 q hq hi
    · have := lt_of_get h3; omega
  · intro s t m a l a' l' hs ht e1 e2
    obtain ⟨m1, a1, l1, _, _, _, f1, _⟩ := (hI.tok s hs).ex
    obtain ⟨m2, a2, l2, _, _, _, f2, _⟩ := (hI.tok t ht).ex
    have g1 := h.tok s _ f1
    have g2 := h.tok t _ f2
    rw [g1] at e1; rw [g2] at e2
    cases e1; cases e2
    exact hI.tinj s t _ _ _ _ _ hs ht f1 f2
  · intro i t m a l hi ht e1 e2
    obtain ⟨c1, hc1⟩ := Option.isSome_iff_exists.1 hi
    obtain ⟨m1, _, _, f1, _⟩ := (hI.box i c1 hc1).ex
    obtain ⟨m2, a2, l2, _, _, _, f2, _⟩ := (hI.tok t ht).ex
    have g1 := h.box i m1 f1
    have g2 := h.tok t _ f2
    rw [g1] at e1; rw [g2] at e2
    cases e1; cases e2
    exact hI.apart i t _ _ _ hi ht f1 f2
  · intro b q hq
    rw [h.size]
    rcases h.imm' b q hq with hq | hq
    · have := hI.immlt b q hq; omega
    · omega
  · intro i m hm
    rw [h.size]
    rcases h.box' i m hm with hm | hm
    · have := hI.boxlt i m hm; omega
    · omega
  · intro i m a l hm
    rw [h.size]
    rcases h.tok' i m a l hm with hm | hm
    · have := hI.toklt i m a l hm; omega
    · omega

theorem grows_plain (G : Gh) (w : World) (o : Obj) : Grows G w G { w with heap := w.heap.push o } o :=
  ⟨rfl, rfl, rfl, rfl, rfl, fun _ _ h => h, fun _ _ h => .inl h, fun _ _ h => h, fun _ _ _ _ h => .inl h, fun _ _ h => h, fun _ _ h => .inl h, fun h => h⟩
def Gh.rest (G : Gh) (b n : Nat) : Gh := { G with imm := fun b' o => G.imm b' o ∨ (b' = b ∧ o < n) }
theorem grows_rest (G : Gh) (w : World) (o : Obj) (n : Nat) : Grows G w (G.rest w.heap.size n) { w with heap := w.heap.push o } o :=
  ⟨rfl, rfl, rfl, rfl, rfl, fun _ _ h => h, fun _ _ h => .inl h, fun _ _ h => h, fun _ _ _ _ h => .inl h, fun _ _ h => .inl h, fun _ _ h => h.imp id (·.1), fun h => h⟩
def Gh.withBox (G : Gh) (i b : Nat) : Gh := { G with box := fun j => if j = i then some b else G.box j }
theorem grows_box (G : Gh) (w : World) (o : Obj) (i : Nat) (hi : G.box i = none) : Grows G w (G.withBox i w.heap.size) { w with heap := w.heap.push o } o := by
  refine ⟨rfl, rfl, rfl, rfl, rfl, fun j m h => ?_, fun j m h => ?_, fun _ _ h => h, fun _ _ _ _ h => .inl h, fun _ _ h => h, fun _ _ h => .inl h, fun ⟨N, hN⟩ => ⟨max N (i + 1), fun j hj => ⟨?_, (hN j (by omega)).2⟩⟩⟩
  · show (if j = i then _ else _) = _
    rw [if_neg (fun e => by rw [e, hi] at h; cases h)]; exact h
  · change (if j = i then _ else _) = _ at h
    split at h
    · exact .inr (by cases h; rfl)
    · exact .inl h
  · show (if j = i then _ else _) = _
    rw [if_neg (by omega)]; exact (hN j (by omega)).1
def Gh.withTok (G : Gh) (t b e lim n : Nat) : Gh := { G with tok := fun j => if j = t then some (b, e, lim) else G.tok j, imm := fun b' o => G.imm b' o ∨ (b' = b ∧ o < n) }
theorem grows_tok (G : Gh) (w : World) (o : Obj) (t e lim n : Nat) (ht : G.tok t = none) : Grows G w (G.withTok t w.heap.size e lim n) { w with heap := w.heap.push o } o := by
  refine ⟨rfl, rfl, rfl, rfl, rfl, fun _ _ h => h, fun _ _ h => .inl h, fun j m h => ?_, fun j m a l h => ?_, fun _ _ h => .inl h, fun _ _ h => h.imp id (·.1), fun ⟨N, hN⟩ => ⟨max N (t + 1), fun j hj => ⟨(hN j (by omega)).1, ?_⟩⟩⟩
  · show (if j = t then _ else _) = _
    rw [if_neg (fun e => by rw [e, ht] at h; cases h)]; exact h
  · change (if j = t then _ else _) = _ at h
    split at h
    · exact .inr (by cases h; rfl)
    · exact .inl h
  · show (if j = t then _ else _) = _
    rw [if_neg (by omega)]; exact (hN j (by omega)).2
end Go.Al
end
section
set_option linter.unusedVariables false
set_option linter.unusedSimpArgs false
namespace Go.Al
open Go.RowKit

theorem addr_add (b o i : Nat) : (⟨b, o, none⟩ : Addr).add i = ⟨b, o + i, none⟩ := by unfold Addr.add; split <;> simp_all

def setAll (c : Array Value) (o : Nat) : List Value → Array Value
  | [] => c
  | v :: vs => setAll (c.setIfInBounds o v) (o + 1) vs
theorem setAll_size : ∀ (vs : List Value) (c : Array Value) (o : Nat), (setAll c o vs).size = c.size
  | [], _, _ => rfl
  | v :: vs, c, o => by simp [setAll, setAll_size vs]
theorem setAll_get : ∀ (vs : List Value) (c : Array Value) (o j : Nat), o + vs.length ≤ c.size → (setAll c o vs)[j]? = if o ≤ j ∧ j < o + vs.length then vs[j - o]? else c[j]?
  | [], c, o, j, _ => by rw [if_neg (by simp only [List.length_nil]; omega), setAll]
  | v :: vs, c, o, j, h => by
    simp only [List.length_cons] at h ⊢
    rw [setAll, setAll_get vs _ _ _ (by simp; omega)]
    by_cases h1 : o + 1 ≤ j ∧ j < o + 1 + vs.length
    · rw [if_pos h1, if_pos (by omega)]
      obtain ⟨q, rfl⟩ : ∃ q, j = o + (q + 1) := ⟨j - o - 1, by omega⟩
      rw [show o + (q + 1) - (o + 1) = q by omega, show o + (q + 1) - o = q + 1 by omega]
      simp
    · rw [if_neg h1]
      by_cases h2 : j = o
      · subst h2
        rw [if_pos (by omega), Array.getElem?_setIfInBounds_self_of_lt (by omega)]
        simp
      · rw [if_neg (by omega), Array.getElem?_setIfInBounds_ne (by omega)]

structure Rewrote (w w' : World) (m : Nat) (c' : Array Value) (T : TypeId) (fr : Nat × Nat) : Prop where
  here : w'.heap[m]? = some (.cells c' T fr)
  there : ∀ k, k ≠ m → w'.heap[k]? = w.heap[k]?
  size : w'.heap.size = w.heap.size
  os : w'.os = w.os
  tape : w'.tape = w.tape
  output : w'.output = w.output

theorem rewrote_set (w : World) (m o : Nat) (c : Array Value) (T : TypeId) (fr : Nat × Nat) (v : Value) (h : w.heap[m]? = some (.cells c T fr)) :
    Rewrote w (w.setCell ⟨m, o, none⟩ v) m (c.setIfInBounds o v) T fr := by
  refine ⟨?_, fun k hk => ?_, ?_, rfl, rfl, rfl⟩
  · simp [World.setCell, Array.getElem?_modify, h]
  · exact Below.heap_setCell w ⟨m, o, none⟩ v k hk
  · simp [World.setCell]

theorem run_storeCells (P : Program) (m : Nat) (T : TypeId) (fr : Nat × Nat) (o : Nat) : ∀ (vs : List Value) (i : Nat) (c : Array Value) (w : World),
    w.heap[m]? = some (.cells c T fr) → (fr = (0, 0) ∨ c.size ≤ fr.1) → o + i + vs.length ≤ c.size → (∀ v ∈ vs, v.oneCell' = true) →
    ∃ w', (storeCells ⟨m, o, none⟩ vs i).run P w = .ok () w' ∧ Rewrote w w' m (setAll c (o + i) vs) T fr
  | [], i, c, w, hg, _, _, _ => ⟨w, rfl, hg, fun _ _ => rfl, rfl, rfl, rfl, rfl⟩
  | v :: vs, i, c, w, hg, hf, hl, h1 => by
    simp only [List.length_cons] at hl
    have hcell : w.cell? ⟨m, o + i, none⟩ = some (c[o + i]'(by omega)) := by rw [cell_block hg]; simp
    have hfro : w.frozen? ⟨m, o + i, none⟩ = false := by
      obtain ⟨lo, hi'⟩ := fr
      simp only [World.frozen?, hg, Bool.and_eq_false_iff, decide_eq_false_iff_not]
      rcases hf with hf | hf
      · cases hf; right; omega
      · left; simp only at hf; omega
    have hst : (store ((⟨m, o, none⟩ : Addr).add i) v).run P w = .ok () (w.setCell ⟨m, o + i, none⟩ v) := by
      rw [addr_add, run_store P w _ v _ (h1 v (by simp)), hcell]; simp [hfro]
    have R := rewrote_set w m (o + i) c T fr v hg
    obtain ⟨w', hr, hw⟩ := run_storeCells P m T fr o vs (i + 1) (c.setIfInBounds (o + i) v) _ R.here (by simpa using hf) (by simp; omega) (fun x hx => h1 x (by simp [hx]))
    refine ⟨w', by simp only [storeCells, Sem.run_bind, hst, Result.andThen_ok, hr], ?_⟩
    exact ⟨by rw [setAll, show o + i + 1 = o + (i + 1) by omega]; exact hw.here, fun k hk => (hw.there k hk).trans (R.there k hk), hw.size.trans R.size, hw.os.trans R.os, hw.tape.trans R.tape, hw.output.trans R.output⟩

theorem Rewrote.ext {G G' : Gh} {w w' : World} {m : Nat} {c c' : Array Value} {T : TypeId} {fr : Nat × Nat} (h : Rewrote w w' m c' T fr) (hc : w.heap[m]? = some (.cells c T fr)) (hm : G.base ≤ m)
    (hk : ∀ o, G.imm m o → c'[o]? = c[o]?) (hbase : G'.base = G.base) (hbox : ∀ i x, G.box i = some x → G'.box i = some x) (htok : ∀ i x, G.tok i = some x → G'.tok i = some x) (himm : ∀ b o, G.imm b o → G'.imm b o) : Ext G w G' w' := by
  refine ⟨hbase, hbox, htok, himm, fun b o v hs hv => ?_, .of (by rw [h.size]; exact Nat.le_refl _) fun k o hko ho => (h.there k fun e => by rw [e, hc] at hko; cases hko; cases ho).trans hko⟩
  by_cases e : b = m
  · subst e
    rcases hs with hs | hs
    · omega
    · rw [cell_block h.here, hk o hs, ← cell_block (o := o) hc]; exact hv
  · rw [cell_same (w := w) (w' := w') (h.there b e)]; exact hv
theorem Rewrote.obj {G G' : Gh} {w w' : World} {m : Nat} {c c' : Array Value} {T : TypeId} {fr fr' : Nat × Nat} (R : Rewrote w w' m c' T fr) (hc : w.heap[m]? = some (.cells c T fr')) (e : Ext G w G' w') {σ : St} (h : ∀ l o, σ.obj l = some o → ObOk G w l o) : ∀ l o, σ.obj l = some o → ObOk G' w' l o := fun l o hr =>
  (h l o hr).ext e fun k o hk ho => (R.there k fun e => by subst e; rw [hk] at hc; cases hc; cases ho).trans hk
theorem Rewrote.below {w0 w w' : World} {B m : Nat} {c' : Array Value} {T : TypeId} {fr : Nat × Nat} (h : Rewrote w w' m c' T fr) (hm : B ≤ m) (hB : Below B w0 w) : Below B w0 w' :=
  hB.trans ⟨h.os, h.tape, h.output, by rw [h.size]; exact Nat.le_refl _, fun k hk => h.there k (by omega)⟩

theorem Inv.write {w0 : Base} {G : Gh} {σ : St} {w w' : World} {i m : Nat} {cs cs' : List AV} {c c' : Array Value} {T : TypeId} (hI : Inv w0 G σ w) (hi : σ.box i = some cs) (hm : G.box i = some m)
    (hc : w.heap[m]? = some (.cells c T (0, 0))) (hn : NoImm G m i T) (hb : G.base ≤ m) (R : Rewrote w w' m c' T (0, 0)) (hr : Ext G w G w' → RelL G w' cs' c'.toList) : Inv w0 G (σ.setBox i cs') w' ∧ Ext G w G w' := by
  have e : Ext G w G w' := R.ext hc hb (fun o ho => absurd ho (hn o)) rfl (fun _ _ h => h) (fun _ _ h => h) (fun _ _ h => h)
  have hsome : ∀ j, ((σ.setBox i cs').box j).isSome = true → (σ.box j).isSome = true := fun j hj => by
    by_cases ej : j = i
    · subst ej; rw [hi]; rfl
    · simpa [St.setBox, ej] using hj
  refine ⟨⟨hI.base, R.below hb hI.old, fun j ds hd => ?_, fun a b x ha hb => hI.binj a b x (hsome a ha) (hsome b hb), fun t ht => ?_, hI.tinj, fun a t x y l ha ht => hI.apart a t x y l (hsome a ha) ht,
    fun b o h => by rw [R.size]; exact hI.immlt b o h, fun a x h => by rw [R.size]; exact hI.boxlt a x h, fun a x y l h => by rw [R.size]; exact hI.toklt a x y l h, hI.fresh, R.obj hc e hI.obj⟩, e⟩
  · by_cases ej : j = i
    · subst ej
      simp only [St.setBox, if_true, Option.some.injEq] at hd
      subst hd
      exact ⟨m, c', T, hm, hb, R.here, hr e, hn⟩
    · have hd' : σ.box j = some ds := by simpa [St.setBox, ej] using hd
      obtain ⟨m2, c2, T2, h1, h2, h3, h4, h5⟩ := (hI.box j ds hd').ex
      have hne : m2 ≠ m := fun h => ej (hI.binj j i m (by rw [hd']; rfl) (by rw [hi]; rfl) (h ▸ h1) hm)
      exact ⟨m2, c2, T2, h1, h2, by rw [R.there m2 hne]; exact h3, h4.ext e, h5⟩
  · obtain ⟨m2, a, lim, c2, T2, fr, h1, h2, h3, h4, h5, h6⟩ := (hI.tok t ht).ex
    have hne : m2 ≠ m := fun h => hI.apart i t m a lim (by rw [hi]; rfl) ht hm (h ▸ h1)
    exact ⟨m2, a, lim, c2, T2, fr, h1, h2, by rw [R.there m2 hne]; exact h3, h4, h5, h6⟩

def Gh.filled (G : Gh) (t' b e e' lim : Nat) : Gh := { G with tok := fun j => if j = t' then some (b, e', lim) else G.tok j, imm := fun b' o => G.imm b' o ∨ (b' = b ∧ e ≤ o ∧ o < e') }
theorem Inv.fill {w0 : Base} {G : Gh} {σ : St} {w w' : World} {t t' m e e' lim : Nat} {c c' : Array Value} {T : TypeId} {fr : Nat × Nat} (hI : Inv w0 G σ w) (ht : σ.tok t = true) (hm : G.tok t = some (m, e, lim))
    (hc : w.heap[m]? = some (.cells c T fr)) (hn : ∀ o, e ≤ o → ¬ G.imm m o) (hb : G.base ≤ m) (hlim : lim ≤ c.size) (hfr : fr = (0, 0) ∨ c.size ≤ fr.1) (hs : c'.size = c.size)
    (hk : ∀ o, o < e → c'[o]? = c[o]?) (hle : e ≤ e') (R : Rewrote w w' m c' T fr) (hf : G.tok t' = none) :
    Inv w0 (G.filled t' m e e' lim) ((σ.setTok t false).setTok t' true) w' ∧ Ext G w (G.filled t' m e e' lim) w' := by
  have hne' : t' ≠ t := fun h => by rw [h, hm] at hf; cases hf
  have e1 : Ext G w (G.filled t' m e e' lim) w' := R.ext hc hb (fun o ho => by
      by_cases ho' : o < e
      · exact hk o ho'
      · exact absurd ho (hn o (by omega))) rfl (fun _ _ h => h) (fun i x h => by
      show (if i = t' then _ else _) = _
      rw [if_neg (fun q => by rw [q, hf] at h; cases h)]; exact h) (fun _ _ h => .inl h)
  have htok : ∀ s, ((σ.setTok t false).setTok t' true).tok s = true → s = t' ∨ (s ≠ t ∧ s ≠ t' ∧ σ.tok s = true) := fun s hs => by
    by_cases h1 : s = t'
    · exact .inl h1
    · by_cases h2 : s = t
      · simp [St.setTok, h2] at hs
        exact absurd hs (Ne.symm hne')
      · right; refine ⟨h2, h1, ?_⟩; simpa [St.setTok, h1, h2] using hs
  have hget : ∀ s x, s ≠ t' → (G.filled t' m e e' lim).tok s = some x → G.tok s = some x := fun s x h1 h => by
    change (if s = t' then _ else _) = _ at h
    rwa [if_neg h1] at h
  have hnew : (G.filled t' m e e' lim).tok t' = some (m, e', lim) := by show (if t' = t' then _ else _) = _; rw [if_pos rfl]
  refine ⟨⟨hI.base, R.below hb hI.old, fun j ds hd => ?_, hI.binj, fun s hs' => ?_, fun s u x a l a' l' hs' hu e2 e3 => ?_, fun a s x y l ha hs' e2 e3 => ?_,
    fun b o h => by
      rw [R.size]
      rcases h with h | ⟨rfl, _⟩
      · exact hI.immlt b o h
      · exact lt_of_get hc, fun a x h => by rw [R.size]; exact hI.boxlt a x h, fun a x y l h => by
      rw [R.size]
      by_cases ha : a = t'
      · rw [ha, hnew] at h; cases h; exact lt_of_get hc
      · exact hI.toklt a x y l (hget a _ ha h), ?_, R.obj hc e1 hI.obj⟩, e1⟩
  · obtain ⟨m2, c2, T2, h1, h2, h3, h4, h5⟩ := (hI.box j ds hd).ex
    have hne : m2 ≠ m := fun h => hI.apart j t m2 e lim (by rw [show σ.box j = some ds from hd]; rfl) ht h1 (h ▸ hm)
    exact ⟨m2, c2, T2, h1, h2, by rw [R.there m2 hne]; exact h3, h4.ext e1, ⟨fun o ho => ho.elim (h5 o) (fun h => hne h.1), h5.tag⟩⟩
  · rcases htok s hs' with rfl | ⟨h1, h2, h3⟩
    · exact ⟨m, e', lim, c', T, fr, hnew, hb, R.here, by rw [hs]; exact hlim, by rw [hs]; exact hfr, fun o ho h => h.elim (fun h => hn o (by omega) h) (fun h => by omega)⟩
    · obtain ⟨m2, a, l2, c2, T2, fr2, k1, k2, k3, k4, k5, k6⟩ := (hI.tok s h3).ex
      have hne : m2 ≠ m := fun h => h1 (hI.tinj s t m a l2 e lim h3 ht (h ▸ k1) hm)
      exact ⟨m2, a, l2, c2, T2, fr2, e1.tok _ _ k1, k2, by rw [R.there m2 hne]; exact k3, k4, k5, fun o ho h => h.elim (k6 o ho) (fun h => hne h.1)⟩
  · rcases htok s hs' with rfl | ⟨h1, h2, h3⟩ <;> rcases htok u hu with rfl | ⟨k1, k2, k3⟩
    · rfl
    · rw [hnew] at e2; cases e2
      exact absurd (hI.tinj u t m a' l' e lim k3 ht (hget u _ k2 e3) hm) k1
    · rw [hnew] at e3; cases e3
      exact absurd (hI.tinj s t m a l e lim h3 ht (hget s _ h2 e2) hm) h1
    · exact hI.tinj s u x a l a' l' h3 k3 (hget s _ h2 e2) (hget u _ k2 e3)
  · rcases htok s hs' with rfl | ⟨h1, h2, h3⟩
    · rw [hnew] at e3; cases e3
      exact hI.apart a t _ e lim ha ht e2 hm
    · exact hI.apart a s x y l ha h3 e2 (hget s _ h2 e3)
  · obtain ⟨N, hN⟩ := hI.fresh
    refine ⟨max N (t' + 1), fun j hj => ⟨(hN j (by omega)).1, ?_⟩⟩
    show (if j = t' then _ else _) = _
    rw [if_neg (by omega)]; exact (hN j (by omega)).2
end Go.Al
end
section
set_option linter.unusedVariables false
set_option linter.unusedSimpArgs false
namespace Go.Al
open Go.RowKit

abbrev AEnv := Nat → AV
def aCell : Value → AV
  | .int k n => .int k n
  | .bool b => .bool b
  | .string s => .str s.data.toList
  | .slice none 0 0 => .nils
  | .pointer none => .nilp
  | .nilFunc => .nilfn
  | .nilIface => .nilifc
  | _ => .und
def aConst : Value → AV
  | .agg cs => if cs.toList.all (fun c => (aCell c).one) then .agg (cs.toList.map aCell) else .und
  | .tuple vs => if vs.toList = [] then .tup [] else .und
  | v => aCell v
def aeval (E : AEnv) : Operand → AV
  | .tmp t => E t
  | .const v => aConst v
  | .global _ => .und
  | .func f => .fn (.func f) [] []
structure RelE (G : Gh) (w : World) (E : AEnv) (a : Act) : Prop where
  get : ∀ t, Rel G w (E t) (a.tmps.getD t undef)
theorem RelE.ext {G G' : Gh} {w w' : World} {E : AEnv} {a : Act} (e : Ext G w G' w') (h : RelE G w E a) : RelE G' w' E a := ⟨fun t => (h.get t).ext e⟩

structure RelO (G : Gh) (w : World) (E : AEnv) (a : Act) (o : Oper) : Prop where
  get : ∀ x ∈ o.op.operands, Rel G w (aeval E x) (a.eval x)

theorem rel_str (G : Gh) (w : World) (s : ByteArray) : Rel G w (.str s.data.toList) (.string s) := by
  have := Rel.str (G := G) (w := w) s.data.toList
  simpa using this
theorem aCell_rel (G : Gh) (w : World) (v : Value) : Rel G w (aCell v) v := by
  unfold aCell
  split <;> first | constructor | exact rel_str ..
theorem aConst_rel (G : Gh) (w : World) (v : Value) : Rel G w (aConst v) v := by
  unfold aConst
  split
  · rename_i cs
    split
    · rename_i h
      have : RelL G w (cs.toList.map aCell) cs.toList := by
        generalize cs.toList = l
        induction l with
        | nil => exact .nil
        | cons x xs ih => exact .cons (aCell_rel G w x) ih
      have hr := Rel.agg (G := G) (w := w) (cs := cs.toList.map aCell) (vs := cs.toList) (fun c hc => by
        obtain ⟨x, hx, rfl⟩ := List.mem_map.1 hc
        exact List.all_eq_true.1 h x hx) this
      simpa using hr
    · exact .und _
  · rename_i vs
    split
    · rename_i h
      have hr := Rel.tup (G := G) (w := w) (cs := []) (vs := []) .nil
      have e : vs = [].toArray := by apply Array.ext'; simpa using h
      rw [e]; exact hr
    · exact .und _
  · exact aCell_rel ..
theorem aeval_rel {G : Gh} {w : World} {E : AEnv} {a : Act} (h : RelE G w E a) (x : Operand) : Rel G w (aeval E x) (a.eval x) := by
  cases x with
  | tmp t => exact h.get t
  | const v => exact aConst_rel ..
  | global g => exact .und _
  | func f =>
    have := Rel.fn (G := G) (w := w) (f := .func f) (first := []) (cap := []) .nil .nil
    simpa [aeval, Act.eval] using this

mutual
def AV.val : AV → Option Value
  | .int k n => some (.int k n)
  | .bool b => some (.bool b)
  | .str l => some (.string ⟨l.toArray⟩)
  | .nils => some (.slice none 0 0)
  | .nilp => some (.pointer none)
  | .nilfn => some .nilFunc
  | .nilifc => some .nilIface
  | .agg cs => (AV.vals cs).map fun l => .agg l.toArray
  | .ifc t x => x.val.map (.iface t)
  | _ => none
def AV.vals : List AV → Option (List Value)
  | [] => some []
  | x :: xs => x.val.bind fun v => (AV.vals xs).map (v :: ·)
end
mutual
theorem Rel.val {G : Gh} {w : World} : ∀ {x : AV} {v u : Value}, Rel G w x v → x.val = some u → v = u
  | _, _, _, .und v, h => by simp [AV.val] at h
  | _, _, _, .int k n, h => by simpa [AV.val] using h
  | _, _, _, .bool b, h => by simpa [AV.val] using h
  | _, _, _, .str l, h => by simpa [AV.val] using h
  | _, _, _, .nils, h => by simpa [AV.val] using h
  | _, _, _, .slc .., h => by simp [AV.val] at h
  | _, _, _, .msl .., h => by simp [AV.val] at h
  | _, _, _, .agg h1 hr, h => by
    simp only [AV.val, Option.map_eq_some_iff] at h
    obtain ⟨l, hl, rfl⟩ := h
    rw [RelL.val hr hl]
  | _, _, _, .tup hr, h => by simp [AV.val] at h
  | _, _, _, .ptr _, h => by simp [AV.val] at h
  | _, _, _, .nilp, h => by simpa [AV.val] using h
  | _, _, _, .vp .., h => by simp [AV.val] at h
  | _, _, _, .fn .., h => by simp [AV.val] at h
  | _, _, _, .nilfn, h => by simpa [AV.val] using h
  | _, _, _, .ifc hr, h => by
    simp only [AV.val, Option.map_eq_some_iff] at h
    obtain ⟨l, hl, rfl⟩ := h
    rw [Rel.val hr hl]
  | _, _, _, .nilifc, h => by simpa [AV.val] using h
theorem RelL.val {G : Gh} {w : World} : ∀ {xs : List AV} {vs us : List Value}, RelL G w xs vs → AV.vals xs = some us → vs = us
  | _, _, _, .nil, h => by simpa [AV.vals] using h
  | _, _, _, .cons hh t, h => by
    simp only [AV.vals, Option.bind_eq_some_iff, Option.map_eq_some_iff] at h
    obtain ⟨v, hv, l, hl, rfl⟩ := h
    rw [Rel.val hh hv, RelL.val t hl]
end

def semVal (P : Program) {α : Type} : Sem α → Option α
  | .pure a => some a
  | .program k => semVal P (k P)
  | .mark _ k => semVal P k
  | _ => none
theorem semVal_run (P : Program) {α : Type} : ∀ (s : Sem α) (a : α) (w : World), semVal P s = some a → s.run P w = .ok a w
  | .pure a, b, w, h => by simp only [semVal, Option.some.injEq] at h; subst h; rfl
  | .program k, b, w, h => by simp only [semVal] at h; simp only [Sem.run]; exact semVal_run P (k P) b w h
  | .mark _ k, b, w, h => by simp only [semVal] at h; simp only [Sem.run]; exact semVal_run P k b w h
  | .load .., _, _, h => by simp [semVal] at h
  | .store .., _, _, h => by simp [semVal] at h
  | .new .., _, _, h => by simp [semVal] at h
  | .shape .., _, _, h => by simp [semVal] at h
  | .freeze .., _, _, h => by simp [semVal] at h
  | .frozen .., _, _, h => by simp [semVal] at h
  | .getObj .., _, _, h => by simp [semVal] at h
  | .setObj .., _, _, h => by simp [semVal] at h
  | .choose .., _, _, h => by simp [semVal] at h
  | .sys .., _, _, h => by simp [semVal] at h
  | .halt .., _, _, h => by simp [semVal] at h

def aggD : TypeDesc → Bool
  | .struct _ | .array _ _ => true
  | _ => false
theorem run_isAgg {P : Program} {t : TypeId} {d : TypeDesc} (h : P.underlying t = some d) (w : World) : (isAgg t).run P w = .ok (aggD d) w := by
  cases d <;> simp [isAgg, aggD, run_underlying h]
theorem run_size {P : Program} {t : TypeId} {i : TypeInfo} (h : P.info? t = some i) (w : World) : (sizeOf t).run P w = .ok i.size w := by
  simp [sizeOf, typeInfo, h]
theorem run_zero {P : Program} {t : TypeId} {i : TypeInfo} {z : Value} (h : P.info? t = some i) (hz : i.zero = some z) (w : World) : (zeroValue t).run P w = .ok z w := by
  simp [zeroValue, typeInfo, h, hz]

def aPart (P : Program) (t : TypeId) (cs : List AV) (off : Nat) : Option AV :=
  match P.underlying t, (P.info? t).map (·.size) with
  | some d, some n => if aggD d then some (.agg ((cs.drop off).take n)) else cs[off]?
  | _, _ => none
theorem aPart_run {P : Program} {G : Gh} {w : World} {t : TypeId} {cs : List AV} {vs : List Value} {off : Nat} {r : AV} (h1 : ∀ c ∈ cs, c.one = true) (hr : RelL G w cs vs) (h : aPart P t cs off = some r) :
    ∃ v, (part t vs.toArray off).run P w = .ok v w ∧ Rel G w r v := by
  unfold aPart at h
  split at h
  · rename_i d n hd hn
    obtain ⟨i, hi, rfl⟩ := Option.map_eq_some_iff.1 hn
    split at h
    · rename_i ha
      cases h
      refine ⟨.agg ((vs.drop off).take i.size).toArray, ?_, .agg (fun c hc => h1 c (List.mem_of_mem_drop (List.mem_of_mem_take hc))) ((hr.drop off).take i.size)⟩
      simp only [part, Sem.run_bind, run_isAgg hd, Result.andThen_ok, ha, if_true, run_size hi, Sem.run_pure]
      congr 2
      apply Array.ext'
      simp [List.take_drop]
    · rename_i ha
      obtain ⟨v, hv, hrel⟩ := hr.get h
      refine ⟨v, ?_, hrel⟩
      have ha' : aggD d = false := by simpa using ha
      simp only [part, Sem.run_bind, run_isAgg hd, Result.andThen_ok, ha', Bool.false_eq_true, if_false]
      simp [hv]
  · cases h
end Go.Al
end
section
set_option linter.unusedVariables false
set_option linter.unusedSimpArgs false
namespace Go.Al
open Go.RowKit

structure OpOk (P : Program) (o : Oper) (E : AEnv) (r : AV) : Prop where
  go : ∀ w0 G σ w a, Inv w0 G σ w → RelO G w E a o → ∃ v w' G', (execOp a.eval o).run P w = .ok (.value v) w' ∧ Inv w0 G' σ w' ∧ Ext G w G' w' ∧ Rel G' w' r v
theorem OpOk.plain {P : Program} {o : Oper} {E : AEnv} {r : AV} (h : ∀ G w a, RelO G w E a o → ∃ v, (execOp a.eval o).run P w = .ok (.value v) w ∧ Rel G w r v) : OpOk P o E r :=
  ⟨fun w0 G σ w a hI hE => let ⟨v, h1, h2⟩ := h G w a hE; ⟨v, w, G, h1, hI, .refl G w, h2⟩⟩

section
variable {P : Program} {E : AEnv} {o : Oper}

theorem ok_move (x : Operand) (ho : o.op = .move x) : OpOk P o E (aeval E x) := .plain fun G w a hE => by
  exact ⟨a.eval x, by simp [execOp, ho], hE.get x (by simp [ho, Op.operands, Call.operands])⟩
theorem ok_assign (x : Operand) (ho : o.op = .assign x) : OpOk P o E (aeval E x) := .plain fun G w a hE => by
  exact ⟨a.eval x, by simp [execOp, ho], hE.get x (by simp [ho, Op.operands, Call.operands])⟩

def aPick (c x y : AV) : Option AV :=
  match c with
  | .bool t => some (bif t then x else y)
  | _ => none
theorem ok_pick (c x y : Operand) (ho : o.op = .pick c x y) {r : AV} (h : aPick (aeval E c) (aeval E x) (aeval E y) = some r) : OpOk P o E r := .plain fun G w a hE => by
  have hx := hE.get x (by simp [ho, Op.operands, Call.operands])
  have hy := hE.get y (by simp [ho, Op.operands, Call.operands])
  generalize hX : aeval E x = X at *
  generalize hY : aeval E y = Y at *
  unfold aPick at h
  split at h
  · rename_i t hC
    cases h
    have hb : a.eval c = .bool t := (hE.get c (by simp [ho, Op.operands, Call.operands])).val (by rw [hC]; rfl)
    refine ⟨if t then a.eval x else a.eval y, ?_, ?_⟩
    · simp [execOp, ho, asBool, hb]
    · cases t <;> simp <;> assumption
  · cases h

def aNilCheck : AV → Option AV
  | .ptr b o => some (.ptr b o)
  | .vp x => some (.vp x)
  | .fn (.func f) a b => some (.fn (.func f) a b)
  | .slc sz xs t => some (.slc sz xs t)
  | .ifc t x => some (.ifc t x)
  | _ => none
theorem ok_nilCheck (x : Operand) (ho : o.op = .nilCheck x) {r : AV} (h : aNilCheck (aeval E x) = some r) : OpOk P o E r := .plain fun G w a hE => by
  have hx := hE.get x (by simp [ho, Op.operands, Call.operands])
  have he : execOp a.eval o = execOp (fun _ => a.eval x) { o with op := .nilCheck x } := by simp [execOp, ho]
  rw [he]
  generalize aeval E x = X at *
  generalize a.eval x = v at hx
  cases hx <;> simp only [aNilCheck] at h <;> (try cases h)
  · refine ⟨_, ?_, .slc ‹_› ‹_› ‹_› ‹_› ‹_› ‹_› ‹_›⟩
    simp [execOp]
  · refine ⟨_, ?_, .ptr ‹_›⟩
    simp [execOp]
  · refine ⟨_, ?_, .vp ‹_› ‹_› ‹_›⟩
    simp [execOp]
  · rename_i f _ _ _ _ h1 h2
    cases f <;> simp only [reduceCtorEq] at h
    cases h
    refine ⟨_, ?_, .fn h1 h2⟩
    simp [execOp]
  · refine ⟨_, ?_, .ifc ‹_›⟩
    simp [execOp]

def aKnown (E : AEnv) (x : Operand) : Option Value := (aeval E x).val
theorem known_eval {G : Gh} {w : World} {a : Act} {x : Operand} (hE : Rel G w (aeval E x) (a.eval x)) {v : Value} (h : aKnown E x = some v) : a.eval x = v := hE.val h

def aBinV (P : Program) (op : BinOp) (t : TypeId) (ox oy : Operand) (v u : Value) : Option AV :=
  (semVal P (do eqGuard op t ox oy v u; binOp op t v u)).map aConst
theorem ok_bin (op : BinOp) (t yt : TypeId) (x y : Operand) (ho : o.op = .binOp op t x y yt) {v u : Value} (hx : aKnown E x = some v) (hy : aKnown E y = some u) {r : AV} (h : aBinV P op t x y v u = some r) : OpOk P o E r := .plain fun G w a hE => by
  unfold aBinV at h
  obtain ⟨z, hz, rfl⟩ := Option.map_eq_some_iff.1 h
  refine ⟨z, ?_, aConst_rel ..⟩
  have := semVal_run P _ _ w hz
  simp only [execOp, ho, known_eval (hE.get x (by simp [ho, Op.operands])) hx, known_eval (hE.get y (by simp [ho, Op.operands])) hy]
  rw [Sem.run_bind, this]; rfl
def aUnV (P : Program) (op : UnOp) (v : Value) : Option AV := (semVal P (Op.unary op v)).map aConst
theorem ok_un (op : UnOp) (t : TypeId) (x : Operand) (ho : o.op = .unOp op t x) {v : Value} (hx : aKnown E x = some v) {r : AV} (h : aUnV P op v = some r) : OpOk P o E r := .plain fun G w a hE => by
  unfold aUnV at h
  obtain ⟨z, hz, rfl⟩ := Option.map_eq_some_iff.1 h
  refine ⟨z, ?_, aConst_rel ..⟩
  have := semVal_run P _ _ w hz
  simp only [execOp, ho, known_eval (hE.get x (by simp [ho, Op.operands])) hx]
  rw [Sem.run_bind, this]; rfl
def aConvV (P : Program) (s d : TypeId) (v : Value) : Option AV := (semVal P (convert s d v)).map aConst
theorem ok_conv (s d : TypeId) (x : Operand) (ho : o.op = .convert s d x) {v : Value} (hx : aKnown E x = some v) {r : AV} (h : aConvV P s d v = some r) : OpOk P o E r := .plain fun G w a hE => by
  unfold aConvV at h
  obtain ⟨z, hz, rfl⟩ := Option.map_eq_some_iff.1 h
  refine ⟨z, ?_, aConst_rel ..⟩
  have := semVal_run P _ _ w hz
  simp only [execOp, ho, known_eval (hE.get x (by simp [ho, Op.operands])) hx]
  rw [Sem.run_bind, this]; rfl

def aField (P : Program) (t : TypeId) (x : AV) (f : Nat) : Option AV :=
  match P.underlying t, x with
  | some (.struct fs), .agg cs => match fs[f]? with
    | some fd => aPart P fd.type cs fd.offset
    | none => none
  | _, _ => none
theorem ok_field (t : TypeId) (x : Operand) (f : Nat) (ho : o.op = .field t x f) {r : AV} (h : aField P t (aeval E x) f = some r) : OpOk P o E r := .plain fun G w a hE => by
  have hx := hE.get x (by simp [ho, Op.operands, Call.operands])
  unfold aField at h
  split at h
  · rename_i fs cs hu hc
    split at h
    · rename_i fd hf
      rw [hc] at hx
      have he : (execOp a.eval o) = (Instr.field t (a.eval x) f >>= fun v => pure (.value v)) := by simp only [execOp, ho]
      rw [he]
      generalize a.eval x = v at *
      cases hx
      rename_i vs h1 hr
      obtain ⟨v, hv, hrel⟩ := aPart_run h1 hr h
      refine ⟨v, ?_, hrel⟩
      simp [Instr.field, run_underlying hu, hf, asAgg, hv]
    · cases h
  · cases h

def aFieldAddr (P : Program) (t : TypeId) (x : AV) (f : Nat) : Option AV :=
  match P.underlying t, x with
  | some (.struct fs), .vp (.agg cs) => match fs[f]? with
    | some fd => if ((P.info? fd.type).map (·.size)).getD 0 = 0 then none else (aPart P fd.type cs fd.offset).map .vp
    | none => none
  | some (.struct fs), .ptr b off => match fs[f]? with
    | some fd => if ((P.info? fd.type).map (·.size)).getD 0 = 0 then none else some (.ptr b (off + fd.offset))
    | none => none
  | _, _ => none
theorem Lies.sub {G : Gh} {w : World} {b o : Nat} {vs : List Value} (h : Lies G w (some ⟨b, o, none⟩) vs) (d n : Nat) : Lies G w (some ⟨b, o + d, none⟩) ((vs.drop d).take n) := fun k v hk => by
  have hk' : vs[d + k]? = some v := by
    rw [List.getElem?_take] at hk
    split at hk
    · rwa [List.getElem?_drop] at hk
    · cases hk
  obtain ⟨b', o', e, hs, hc⟩ := h (d + k) v hk'
  cases e
  exact ⟨b, o + d, rfl, by rwa [Nat.add_assoc], by rwa [Nat.add_assoc]⟩
theorem aPart_vp {P : Program} {G : Gh} {w : World} {t : TypeId} {cs : List AV} {vs : List Value} {off b o : Nat} {r : AV} (h1 : ∀ c ∈ cs, c.one = true) (hr : RelL G w cs vs) (hl : Lies G w (some ⟨b, o, none⟩) vs) (h : aPart P t cs off = some r) :
    Rel G w (.vp r) (.pointer (some ⟨b, o + off, none⟩)) := by
  unfold aPart at h
  split at h
  · split at h
    · cases h
      exact .vp (fun c hc => h1 c (List.mem_of_mem_drop (List.mem_of_mem_take hc))) ((hr.drop off).take _) (hl.sub off _)
    · have hone := h1 r (List.mem_of_getElem? h)
      obtain ⟨v, hv, hrel⟩ := hr.get h
      have e : r.cells = [r] := by cases r <;> simp [AV.one] at hone <;> rfl
      refine .vp (vs := [v]) (by rw [e]; simpa using hone) (by rw [e]; exact .cons hrel .nil) ?_
      have := hl.sub off 1
      rwa [show (vs.drop off).take 1 = [v] by
        rw [List.take_one, List.head?_drop, hv]; rfl] at this
  · cases h
theorem ok_fieldAddr (t : TypeId) (x : Operand) (f : Nat) (ho : o.op = .fieldAddr t x f) {r : AV} (h : aFieldAddr P t (aeval E x) f = some r) : OpOk P o E r := .plain fun G w a hE => by
  have hx := hE.get x (by simp [ho, Op.operands, Call.operands])
  have he : (execOp a.eval o) = (Instr.fieldAt t (a.eval x) f >>= fun v => pure (.value v)) := by simp only [execOp, ho]
  rw [he]
  unfold aFieldAddr at h
  split at h
  · rename_i fs cs hu hc
    split at h
    · rename_i fd hf
      rw [hc] at hx
      split at h
      · cases h
      · rename_i hsz
        obtain ⟨y, hy, rfl⟩ := Option.map_eq_some_iff.1 h
        generalize a.eval x = v at *
        cases hx with
        | vp h1 hr hl =>
          rename_i b q vs
          cases hi : P.info? fd.type with
          | none => simp [hi] at hsz
          | some i =>
            simp [hi] at hsz
            refine ⟨.pointer (some ⟨b, q + fd.offset, none⟩), ?_, aPart_vp h1 hr hl hy⟩
            simp [Instr.fieldAt, run_underlying hu, hf, Instr.sureAddr, fieldPlace, run_size hi, hsz, addr_add]
    · cases h
  · rename_i fs b off hu hc
    split at h
    · rename_i fd hf
      rw [hc] at hx
      split at h
      · cases h
      · rename_i hsz
        cases h
        generalize a.eval x = v at *
        cases hx
        rename_i m hb
        cases hi : P.info? fd.type with
        | none => simp [hi] at hsz
        | some i =>
          simp [hi] at hsz
          refine ⟨.pointer (some ⟨m, off + fd.offset, none⟩), ?_, .ptr hb⟩
          simp [Instr.fieldAt, run_underlying hu, hf, Instr.sureAddr, fieldPlace, run_size hi, hsz, addr_add]
    · cases h
  · cases h

def aIndexAddr (P : Program) (t : TypeId) (x i : AV) : Option AV :=
  match P.underlying t, x, i with
  | some (.slice e), .slc sz xs _, .int _ n => if 0 ≤ n ∧ 0 < sz ∧ (P.info? e).map (·.size) = some sz then (xs[n.toNat]?).map .vp else none
  | some (.slice e), .msl b off m _, .int _ n => if 0 ≤ n ∧ n < m then ((P.info? e).map (·.size)).map fun sz => .ptr b (off + n.toNat * sz) else none
  | some (.array len e), .ptr b off, .int _ n => if 0 ≤ n ∧ n < len then ((P.info? e).map (·.size)).map fun sz => .ptr b (off + n.toNat * sz) else none
  | _, _, _ => none
theorem flat_get {xs : List AV} {sz : Nat} : ∀ {i : Nat} {x : AV}, (∀ x ∈ xs, x.cells.length = sz) → xs[i]? = some x → ((xs.flatMap AV.cells).drop (i * sz)).take sz = x.cells := by
  induction xs with
  | nil => intro i x _ h; simp at h
  | cons y ys ih =>
    intro i x hsz h
    have hy := hsz y (by simp)
    cases i with
    | zero =>
      simp at h; subst h
      simp [← hy]
    | succ i =>
      simp only [List.getElem?_cons_succ] at h
      rw [List.flatMap_cons, show (i + 1) * sz = sz + i * sz by rw [Nat.add_mul, Nat.one_mul, Nat.add_comm], ← List.drop_drop]
      rw [show (y.cells ++ ys.flatMap AV.cells).drop sz = ys.flatMap AV.cells by rw [← hy]; simp]
      exact ih (fun z hz => hsz z (by simp [hz])) h
theorem slc_elem {G : Gh} {w : World} {sz : Nat} {xs : List AV} {t : Tok} {A : Option Addr} {n cap : Nat} (h : Rel G w (.slc sz xs t) (.slice A n cap)) {i : Nat} {x : AV} (hx : xs[i]? = some x) (hpos : 0 < sz) :
    ∃ b o vs, A = some ⟨b, o, none⟩ ∧ i < n ∧ RelL G w x.cells vs ∧ Lies G w (some ⟨b, o + i * sz, none⟩) vs ∧ (∀ c ∈ x.cells, c.one = true) ∧ x.cells.length = sz := by
  cases h with
  | slc hn hc hm hsz hr hl ht =>
    rename_i vs
    have hi : i < xs.length := by
      obtain ⟨h, _⟩ := List.getElem?_eq_some_iff.1 hx; exact h
    have hmem := List.mem_of_getElem? hx
    have hcl := (hsz x hmem).1
    have hfl := flat_get (fun x hx => (hsz x hx).1) hx
    have hr' := (hr.drop (i * sz)).take sz
    rw [hfl] at hr'
    have hlen := hr'.length
    have h0 : ∃ v, vs[i * sz]? = some v := by
      cases hd : (vs.drop (i * sz)).take sz with
      | nil => rw [hd] at hlen; simp at hlen; omega
      | cons v _ =>
        refine ⟨v, ?_⟩
        have : ((vs.drop (i * sz)).take sz)[0]? = some v := by rw [hd]; rfl
        rw [List.getElem?_take_of_lt hpos] at this
        simpa using this
    obtain ⟨v0, hv0⟩ := h0
    obtain ⟨b, q, rfl, _, _⟩ := hl _ _ hv0
    exact ⟨b, q, _, rfl, by omega, hr', hl.sub (i * sz) sz, (hsz x hmem).2, hcl⟩
theorem ok_indexAddr (t : TypeId) (x i : Operand) (ho : o.op = .indexAddr t x i) {r : AV} (h : aIndexAddr P t (aeval E x) (aeval E i) = some r) : OpOk P o E r := .plain fun G w a hE => by
  have hx := hE.get x (by simp [ho, Op.operands, Call.operands])
  have hi := hE.get i (by simp [ho, Op.operands, Call.operands])
  have he : (execOp a.eval o) = (Instr.indexAt t (a.eval x) (a.eval i) >>= fun v => pure (.value v)) := by simp only [execOp, ho]
  rw [he]
  unfold aIndexAddr at h
  split at h
  · rename_i e sz xs tk k n hu hX hJ
    rw [hX] at hx; rw [hJ] at hi
    split at h
    · rename_i hc
      obtain ⟨h0, hpos, hinfo⟩ := hc
      obtain ⟨inf, hinf, hsz⟩ := Option.map_eq_some_iff.1 hinfo
      obtain ⟨y, hy, rfl⟩ := Option.map_eq_some_iff.1 h
      generalize a.eval x = v at *
      generalize a.eval i = u at *
      cases hi
      have hx' := hx
      cases hx with
      | slc hn hcp hm hs hr hl ht =>
        obtain ⟨b, q, vs, rfl, hlt, hrel, hlies, hone, hlen⟩ := slc_elem hx' hy hpos
        refine ⟨.pointer (some ⟨b, q + n.toNat * sz, none⟩), ?_, .vp hone hrel hlies⟩
        rename_i nn _ _
        have hlt' : n < (nn : Int) := by omega
        simp [Instr.indexAt, asIntOf, run_underlying hu, h0, hlt', run_size hinf, hsz, addr_add]
    · cases h
  · rename_i e b off m cp k n hu hX hJ
    rw [hX] at hx; rw [hJ] at hi
    split at h
    · rename_i hc
      obtain ⟨sz, hsz, rfl⟩ := Option.map_eq_some_iff.1 h
      obtain ⟨inf, hinf, hsz⟩ := Option.map_eq_some_iff.1 hsz
      generalize a.eval x = v at *
      generalize a.eval i = u at *
      cases hi
      cases hx
      rename_i mm hb hcap hmax
      exact ⟨.pointer (some ⟨mm, off + n.toNat * sz, none⟩), by simp [Instr.indexAt, asIntOf, run_underlying hu, hc.1, hc.2, run_size hinf, hsz, addr_add], .ptr hb⟩
    · cases h
  · rename_i len e b off k n hu hX hJ
    rw [hX] at hx; rw [hJ] at hi
    split at h
    · rename_i hc
      obtain ⟨sz, hsz, rfl⟩ := Option.map_eq_some_iff.1 h
      obtain ⟨inf, hinf, hsz⟩ := Option.map_eq_some_iff.1 hsz
      generalize a.eval x = v at *
      generalize a.eval i = u at *
      cases hi
      cases hx
      rename_i mm hb
      exact ⟨.pointer (some ⟨mm, off + n.toNat * sz, none⟩), by simp [Instr.indexAt, asIntOf, run_underlying hu, hc.1, hc.2, run_size hinf, hsz, addr_add, Instr.sureAddr], .ptr hb⟩
    · cases h
  · cases h
end
end Go.Al
end
section
set_option linter.unusedVariables false
set_option linter.unusedSimpArgs false
namespace Go.Al
open Go.RowKit

section
variable {P : Program} {E : AEnv} {o : Oper}

def aExtract (x : AV) (i : Nat) : Option AV :=
  match x with
  | .tup vs => vs[i]?
  | _ => none
theorem ok_extract (x : Operand) (i : Nat) (ho : o.op = .extract x i) {r : AV} (h : aExtract (aeval E x) i = some r) : OpOk P o E r := .plain fun G w a hE => by
  have hx := hE.get x (by simp [ho, Op.operands, Call.operands])
  have he : execOp a.eval o = (Instr.extract (a.eval x) i >>= fun v => pure (.value v)) := by simp only [execOp, ho]
  rw [he]
  unfold aExtract at h
  split at h
  · rename_i vs hX
    rw [hX] at hx
    generalize a.eval x = v at *
    cases hx with
    | tup hr =>
      obtain ⟨u, hu, hrel⟩ := hr.get h
      exact ⟨u, by simp [Instr.extract, hu], hrel⟩
  · cases h

def ifaceD : TypeDesc → Bool
  | .interface _ => true
  | _ => false
def aMakeIface (P : Program) (t : TypeId) (x : AV) : Option AV :=
  match P.underlying t with
  | some d => if ifaceD d then none else some (.ifc t x)
  | none => none
theorem ok_makeIface (t : TypeId) (x : Operand) (ho : o.op = .makeInterface t x) {r : AV} (h : aMakeIface P t (aeval E x) = some r) : OpOk P o E r := .plain fun G w a hE => by
  have hx := hE.get x (by simp [ho, Op.operands, Call.operands])
  have he : execOp a.eval o = (Instr.makeInterface t (a.eval x) >>= fun v => pure (.value v)) := by simp only [execOp, ho]
  rw [he]
  unfold aMakeIface at h
  split at h
  · rename_i d hd
    split at h
    · cases h
    · rename_i hi
      cases h
      exact ⟨_, by cases d <;> simp [ifaceD] at hi <;> simp [Instr.makeInterface, run_underlying hd], .ifc hx⟩
  · cases h

theorem evals_rel {G : Gh} {w : World} {a : Act} : ∀ l : List Operand, (∀ x ∈ l, Rel G w (aeval E x) (a.eval x)) → RelL G w (l.map (aeval E)) (l.map a.eval)
  | [], _ => .nil
  | x :: l, h => .cons (h x (by simp)) (evals_rel l fun y hy => h y (by simp [hy]))
theorem ok_makeFunc (f : Fn) (first cap : Array Operand) (ho : o.op = .makeFunc f first cap) : OpOk P o E (.fn f (first.toList.map (aeval E)) (cap.toList.map (aeval E))) := .plain fun G w a hE => by
  refine ⟨.func f (first.map a.eval) (cap.map a.eval), by simp [execOp, ho, Instr.makeFunc], ?_⟩
  have := Rel.fn (f := f) (evals_rel first.toList fun x hx => hE.get x (by simp [ho, Op.operands]; exact .inl (by simpa using hx))) (evals_rel cap.toList fun x hx => hE.get x (by simp [ho, Op.operands]; exact .inr (by simpa using hx)))
  rw [show (first.toList.map a.eval).toArray = first.map a.eval by apply Array.ext'; simp, show (cap.toList.map a.eval).toArray = cap.map a.eval by apply Array.ext'; simp] at this
  exact this

def aBuiltinV (P : Program) (b : Builtin) (ts : Array TypeId) (t : TypeId) (cs : Array Bool) (vs : List Value) : Option AV :=
  match semVal P (builtin b ts t cs vs.toArray) with
  | some (.value v) => some (aConst v)
  | _ => none
theorem ok_builtinV (b : Builtin) (args : Array Operand) (ts : Array TypeId) (ho : o.op = .call { callee := .builtin b, args, argTypes := ts }) {vs : List Value} (hv : AV.vals (args.toList.map (aeval E)) = some vs) {r : AV}
    (h : aBuiltinV P b ts o.type (args.map fun | .const _ => true | _ => false) vs = some r) : OpOk P o E r := .plain fun G w a hE => by
  unfold aBuiltinV at h
  split at h
  · rename_i v hs
    cases h
    refine ⟨v, ?_, aConst_rel ..⟩
    have hvs := (evals_rel args.toList fun x hx => hE.get x (by simp [ho, Op.operands, Call.operands]; simpa using hx)).val hv
    have : args.map a.eval = vs.toArray := by apply Array.ext'; simpa using hvs
    have hr := semVal_run P _ _ w hs
    simp only [execOp, ho, resolve, Sem.run_bind, Sem.run_pure, Result.andThen_ok, invoke, this]
    exact hr
  · cases h

def aLen (P : Program) (t : TypeId) (x : AV) : Option AV :=
  match P.underlying t, x with
  | some .string, .str l => some (.int .i64 l.length)
  | some (.slice _), .slc _ xs _ => some (.int .i64 xs.length)
  | some (.slice _), .nils => some (.int .i64 0)
  | some (.slice _), .msl _ _ n _ => some (.int .i64 n)
  | some (.array n _), _ => some (.int .i64 n)
  | _, _ => none
theorem ok_len (x : Operand) (t : TypeId) (ho : o.op = .call { callee := .builtin .len, args := #[x], argTypes := #[t] }) {r : AV} (h : aLen P t (aeval E x) = some r) : OpOk P o E r := .plain fun G w a hE => by
  have hx := hE.get x (by simp [ho, Op.operands, Call.operands])
  have he : execOp a.eval o = (Builtin.len_ #[t] o.type #[a.eval x] >>= fun v => pure (.value v)) := by simp [execOp, ho, resolve, invoke, builtin]
  rw [he]
  unfold aLen at h
  split at h
  · rename_i l hu hX
    rw [hX] at hx; cases h
    generalize a.eval x = v at *
    cases hx
    exact ⟨_, by simp [Builtin.len_, run_underlying hu]; rfl, .int ..⟩
  · rename_i e sz xs tk hu hX
    rw [hX] at hx; cases h
    generalize a.eval x = v at *
    cases hx with
    | slc hn hc hm hsz hr hl ht => exact ⟨_, by simp [Builtin.len_, run_underlying hu, goInt, hn], .int ..⟩
  · rename_i e hu hX
    rw [hX] at hx; cases h
    generalize a.eval x = v at *
    cases hx
    exact ⟨_, by simp [Builtin.len_, run_underlying hu, goInt], .int ..⟩
  · rename_i e b off n hu hX
    rw [hX] at hx; cases h
    generalize a.eval x = v at *
    cases hx
    exact ⟨_, by simp [Builtin.len_, run_underlying hu, goInt], .int ..⟩
  · rename_i n e hu
    cases h
    exact ⟨_, by simp [Builtin.len_, run_underlying hu, goInt], .int ..⟩
  · cases h

def aIndex (P : Program) (t : TypeId) (x i : AV) : Option AV :=
  match P.underlying t, x, i with
  | some .string, .str l, .int _ n => if 0 ≤ n then (l[n.toNat]?).map fun b => .int .u8 b.toNat else none
  | some (.array len e), .agg cs, .int _ n => if 0 ≤ n ∧ n < len then ((P.info? e).map (·.size)).bind fun sz => aPart P e cs (n.toNat * sz) else none
  | _, _, _ => none
theorem ok_index (t : TypeId) (x i : Operand) (ho : o.op = .index t x i) {r : AV} (h : aIndex P t (aeval E x) (aeval E i) = some r) : OpOk P o E r := .plain fun G w a hE => by
  have hx := hE.get x (by simp [ho, Op.operands, Call.operands])
  have hi := hE.get i (by simp [ho, Op.operands, Call.operands])
  have he : execOp a.eval o = (Instr.index t (a.eval x) (a.eval i) >>= fun v => pure (.value v)) := by simp only [execOp, ho]
  rw [he]
  unfold aIndex at h
  split at h
  · rename_i l k n hu hX hJ
    rw [hX] at hx; rw [hJ] at hi
    split at h
    · rename_i h0
      obtain ⟨b, hb, rfl⟩ := Option.map_eq_some_iff.1 h
      generalize a.eval x = v at *
      generalize a.eval i = u at *
      cases hx
      cases hi
      obtain ⟨hlt, hget⟩ := List.getElem?_eq_some_iff.1 hb
      have hbs : (⟨l.toArray⟩ : ByteArray)[n.toNat]? = some b := by
        have hsz : n.toNat < (⟨l.toArray⟩ : ByteArray).size := by simpa [ByteArray.size] using hlt
        rw [getElem?_pos (⟨l.toArray⟩ : ByteArray) n.toNat hsz]
        congr 1
      exact ⟨.int .u8 b.toNat, by simp [Instr.index, asIntOf, run_underlying hu, h0, hbs], .int ..⟩
    · cases h
  · rename_i len e cs k n hu hX hJ
    rw [hX] at hx; rw [hJ] at hi
    split at h
    · rename_i hc
      obtain ⟨sz, hsz, hp⟩ := Option.bind_eq_some_iff.1 h
      obtain ⟨inf, hinf, rfl⟩ := Option.map_eq_some_iff.1 hsz
      generalize a.eval x = v at *
      generalize a.eval i = u at *
      cases hi
      cases hx with
      | agg h1 hr =>
        obtain ⟨v, hv, hrel⟩ := aPart_run (P := P) (t := e) h1 hr hp
        exact ⟨v, by simp [Instr.index, asIntOf, run_underlying hu, hc.1, hc.2, run_size hinf, hv], hrel⟩
    · cases h
  · cases h

def aByte (b : UInt8) : AV := .int .u8 b.toNat
def aBytes (l : List UInt8) : List AV := l.map aByte
def toByte : AV → Option UInt8
  | .int .u8 n => if 0 ≤ n ∧ n < 256 then some (UInt8.ofNat n.toNat) else none
  | _ => none
def toBytes : List AV → Option (List UInt8)
  | [] => some []
  | x :: xs => (toByte x).bind fun b => (toBytes xs).map (b :: ·)
@[simp] theorem toByte_aByte (b : UInt8) : toByte (aByte b) = some b := by
  have := b.toNat_lt
  simp only [toByte, aByte]
  rw [if_pos (by omega)]
  simp
@[simp] theorem toBytes_aBytes (l : List UInt8) : toBytes (aBytes l) = some l := by
  induction l with
  | nil => rfl
  | cons b l ih => simp only [aBytes, List.map_cons, toBytes, toByte_aByte, Option.bind_some] at ih ⊢; rw [ih]; rfl
theorem toBytes_vals {G : Gh} {w : World} : ∀ {xs : List AV} {vs : List Value} {l : List UInt8}, RelL G w xs vs → toBytes xs = some l → vs = l.map fun b => .int .u8 b.toNat
  | _, _, l, .nil, h => by simp [toBytes] at h; subst h; rfl
  | x :: xs, _, l, .cons hx t, h => by
    simp only [toBytes, Option.bind_eq_some_iff, Option.map_eq_some_iff] at h
    obtain ⟨b, hb, l', hl, rfl⟩ := h
    have ht := toBytes_vals t hl
    unfold toByte at hb
    split at hb
    · split at hb
      · rename_i n hn
        cases hb
        cases hx
        rw [ht]
        simp
        omega
      · cases hb
    · cases hb
theorem lies_load {P : Program} {G : Gh} {w : World} {A : Option Addr} {vs : List Value} (h : Lies G w A vs) (a : Addr) (hA : A = some a) (n : Nat) (hn : vs.length = n) : (loadCells a n).run P w = .ok vs.toArray w := by
  subst hn
  refine run_loadCells_list w a vs fun j v hj => ?_
  obtain ⟨b, o, e, _, hc⟩ := h j v hj
  rw [hA] at e
  cases e
  rw [addr_add]; exact hc
theorem flat_one {xs : List AV} (h : ∀ x ∈ xs, x.cells.length = 1 ∧ ∀ c ∈ x.cells, c.one = true) (h2 : ∀ x ∈ xs, ∀ cs, x ≠ .agg cs) : xs.flatMap AV.cells = xs := by
  induction xs with
  | nil => rfl
  | cons x xs ih =>
    rw [List.flatMap_cons, ih (fun y hy => h y (by simp [hy])) (fun y hy => h2 y (by simp [hy]))]
    have := h2 x (by simp)
    cases x <;> first | rfl | (exact absurd rfl (this _))
theorem toBytes_noagg : ∀ {xs : List AV} {l : List UInt8}, toBytes xs = some l → ∀ x ∈ xs, ∀ cs, x ≠ .agg cs
  | x :: xs, l, h, y, hy, cs => by
    simp only [toBytes, Option.bind_eq_some_iff, Option.map_eq_some_iff] at h
    obtain ⟨b, hb, l', hl, rfl⟩ := h
    rcases List.mem_cons.1 hy with rfl | hy
    · intro e; subst e; simp [toByte] at hb
    · exact toBytes_noagg hl y hy cs
theorem foldl_push (l : List UInt8) : ∀ s : ByteArray, (l.map fun b => (b.toNat : Int)).foldl (fun r n => r.push (UInt8.ofNat n.toNat)) s = ⟨s.data ++ l.toArray⟩ := by
  induction l with
  | nil => intro s; simp
  | cons b l ih =>
    intro s
    simp only [List.map_cons, List.foldl_cons]
    rw [ih]
    simp [ByteArray.push]
def aBytesStr (P : Program) (s d : TypeId) (x : AV) : Option AV :=
  match P.underlying s, P.underlying d with
  | some (.slice e), some .string => match P.underlying e, x with
    | some (.int .u8), .nils => some (.str [])
    | some (.int .u8), .slc 1 xs _ => (toBytes xs).map .str
    | _, _ => none
  | _, _ => none
theorem ok_bytesStr (s d : TypeId) (x : Operand) (ho : o.op = .convert s d x) {r : AV} (h : aBytesStr P s d (aeval E x) = some r) : OpOk P o E r := .plain fun G w a hE => by
  have hx := hE.get x (by simp [ho, Op.operands, Call.operands])
  have he : execOp a.eval o = (convert s d (a.eval x) >>= fun v => pure (.value v)) := by simp only [execOp, ho]
  rw [he]
  unfold aBytesStr at h
  split at h
  · rename_i e hs hd
    split at h
    · rename_i he' hX
      rw [hX] at hx; cases h
      generalize a.eval x = v at *
      cases hx
      refine ⟨.string ⟨#[]⟩, ?_, .str []⟩
      simp [run_convert_bytes_string w s d e none 0 0 hs he' hd, Conv.bytesToString]
      rfl
    · rename_i xs tk he' hX
      rw [hX] at hx
      obtain ⟨l, hl, rfl⟩ := Option.map_eq_some_iff.1 h
      generalize a.eval x = v at *
      cases hx with
      | slc hn hc hm hsz hr hli ht =>
        rename_i A n cap vs
        rw [flat_one hsz (toBytes_noagg hl)] at hr
        have hvs := toBytes_vals hr hl
        have hlen := hr.length
        cases A with
        | none =>
          have : vs = [] := by
            cases vs with
            | nil => rfl
            | cons v vs => obtain ⟨b, q, e, _⟩ := hli 0 v rfl; cases e
          subst this
          have : l = [] := by simpa using hvs.symm
          subst this
          refine ⟨.string ⟨#[]⟩, ?_, .str []⟩
          simp [run_convert_bytes_string w s d e none n cap hs he' hd, Conv.bytesToString]
          rfl
        | some ad =>
          refine ⟨.string ⟨l.toArray⟩, ?_, .str l⟩
          have hload := lies_load (P := P) hli ad rfl n (by omega)
          rw [hvs] at hload
          have := run_bytesToString (P := P) w ad n cap (l.map fun b => (b.toNat : Int)) (by rw [hload]; simp [List.map_map, Function.comp_def])
          simp only [Sem.run_bind, run_convert_bytes_string w s d e (some ad) n cap hs he' hd, this, Result.andThen_ok, Sem.run_pure, foldl_push]
          congr 4
          simp
    · cases h
  · cases h
end
end Go.Al
end
section
set_option linter.unusedVariables false
set_option linter.unusedSimpArgs false
namespace Go.Al
open Go.RowKit

section
variable {P : Program} {E : AEnv} {o : Oper}

def aBound (x : Option AV) (none' : Int) : Option Int :=
  match x with
  | none => some none'
  | some (.int _ n) => some n
  | some _ => none
def aSlice (P : Program) (t : TypeId) (x : AV) (lo hi : Option AV) : Option AV :=
  match P.underlying t, x with
  | some .string, .str l => (aBound lo 0).bind fun a => (aBound hi l.length).bind fun b => if 0 ≤ a ∧ a ≤ b ∧ b ≤ l.length then some (.str ((l.take b.toNat).drop a.toNat)) else none
  | some (.slice e), .slc sz xs _ => (aBound lo 0).bind fun a => (aBound hi xs.length).bind fun b => if 0 ≤ a ∧ a ≤ b ∧ b ≤ xs.length ∧ (P.info? e).map (·.size) = some sz then some (.slc sz ((xs.take b.toNat).drop a.toNat) .no) else none
  | some (.slice e), .nils => (aBound lo 0).bind fun a => (aBound hi 0).bind fun b => if a = 0 ∧ b = 0 ∧ ((P.info? e).map (·.size)).isSome then some .nils else none
  | _, _ => none
theorem bound_run {G : Gh} {w : World} {a : Act} {x : Option Operand} (hE : ∀ y, x = some y → Rel G w (aeval E y) (a.eval y)) {d n : Int} (h : aBound (x.map (aeval E)) d = some n) : (x = none ∧ n = d) ∨ ∃ k, x.map a.eval = some (.int k n) := by
  cases x with
  | none => simp [aBound] at h; exact .inl ⟨rfl, h.symm⟩
  | some y =>
    right
    have hy := hE y rfl
    simp only [Option.map_some] at h ⊢
    generalize aeval E y = Y at *
    unfold aBound at h
    split at h
    · cases ‹some Y = none›
    · rename_i e
      cases e; cases h
      generalize a.eval y = v at *
      cases hy
      exact ⟨_, rfl⟩
    · cases h
theorem sliceBounds_run (w : World) {a : Act} {lo hi : Option Operand} {isSlice : Bool} {len cap : Nat} {l h : Int} (hl : (lo = none ∧ l = 0) ∨ ∃ k, lo.map a.eval = some (.int k l)) (hh : (hi = none ∧ h = len) ∨ ∃ k, hi.map a.eval = some (.int k h))
    (h0 : 0 ≤ l) (h1 : l ≤ h) (h2 : h ≤ cap) : (Instr.sliceBounds isSlice len cap (lo.map a.eval) (hi.map a.eval) none).run P w = .ok (l.toNat, h.toNat, cap) w := by
  have h0' : 0 ≤ h := by omega
  have hc : l ≤ (h.toNat : Int) := by omega
  rcases hl with ⟨rfl, rfl⟩ | ⟨k, hk⟩ <;> rcases hh with ⟨rfl, rfl⟩ | ⟨k', hk'⟩
  · simp [Instr.sliceBounds]
  · rw [hk']; simp [Instr.sliceBounds, Instr.sliceBound, asIntOf, h0', h2]
  · rw [hk]; simp [Instr.sliceBounds, Instr.sliceBound, asIntOf, h0, h1]
  · rw [hk, hk']; simp [Instr.sliceBounds, Instr.sliceBound, asIntOf, h0, h0', h2]; intro hlt; omega
theorem take_add_app {α : Type} (l m : List α) (i : Nat) : (l ++ m).take (l.length + i) = l ++ m.take i := by
  induction l with
  | nil => simp
  | cons x l ih => rw [List.length_cons, Nat.add_right_comm, List.cons_append, List.take_succ_cons, ih, List.cons_append]
theorem drop_add_app {α : Type} (l m : List α) (i : Nat) : (l ++ m).drop (l.length + i) = m.drop i := by
  induction l with
  | nil => simp
  | cons x l ih => rw [List.length_cons, Nat.add_right_comm, List.cons_append, List.drop_succ_cons, ih]
theorem flat_sub {sz : Nat} : ∀ {xs : List AV} (n : Nat), (∀ x ∈ xs, x.cells.length = sz) → (xs.take n).flatMap AV.cells = (xs.flatMap AV.cells).take (n * sz)
  | [], n, _ => by simp
  | x :: xs, 0, _ => by simp
  | x :: xs, n + 1, h => by
    have hx := h x (by simp)
    rw [List.take_succ_cons, List.flatMap_cons, List.flatMap_cons, flat_sub n (fun y hy => h y (by simp [hy])), show (n + 1) * sz = x.cells.length + n * sz by rw [hx, Nat.add_mul]; omega, take_add_app]
theorem flat_drop {sz : Nat} : ∀ {xs : List AV} (n : Nat), (∀ x ∈ xs, x.cells.length = sz) → (xs.drop n).flatMap AV.cells = (xs.flatMap AV.cells).drop (n * sz)
  | [], n, _ => by simp
  | x :: xs, 0, _ => by simp
  | x :: xs, n + 1, h => by
    have hx := h x (by simp)
    rw [List.drop_succ_cons, List.flatMap_cons, flat_drop n (fun y hy => h y (by simp [hy])), show (n + 1) * sz = x.cells.length + n * sz by rw [hx, Nat.add_mul]; omega, drop_add_app]
theorem Lies.cut {G : Gh} {w : World} {A : Option Addr} {vs : List Value} (h : Lies G w A vs) (d n : Nat) : Lies G w (A.map (·.add d)) ((vs.drop d).take n) := fun k v hk => by
  have hk' : vs[d + k]? = some v := by
    rw [List.getElem?_take] at hk
    split at hk
    · rwa [List.getElem?_drop] at hk
    · cases hk
  obtain ⟨b', o', rfl, hs, hc⟩ := h (d + k) v hk'
  exact ⟨b', o' + d, by simp [addr_add], by rwa [Nat.add_assoc], by rwa [Nat.add_assoc]⟩
theorem ok_slice (t : TypeId) (x : Operand) (lo hi : Option Operand) (ho : o.op = .slice t x lo hi none) {r : AV} (h : aSlice P t (aeval E x) (lo.map (aeval E)) (hi.map (aeval E)) = some r) : OpOk P o E r := .plain fun G w a hE => by
  have hx := hE.get x (by simp [ho, Op.operands, Call.operands])
  have he : execOp a.eval o = (Instr.sliceAt t (a.eval x) (lo.map a.eval) (hi.map a.eval) none >>= fun v => pure (.value v)) := by simp only [execOp, ho, Option.map_none]
  rw [he]
  unfold aSlice at h
  split at h
  · rename_i l hu hX
    rw [hX] at hx
    obtain ⟨n, hn, h⟩ := Option.bind_eq_some_iff.1 h
    obtain ⟨m, hm, h⟩ := Option.bind_eq_some_iff.1 h
    split at h
    · rename_i hc
      cases h
      have bl := bound_run (fun y hy => hE.get y (by simp [ho, Op.operands, hy])) hn
      have bh := bound_run (fun y hy => hE.get y (by simp [ho, Op.operands, hy])) hm
      generalize a.eval x = v at *
      cases hx
      have hsz : (⟨l.toArray⟩ : ByteArray).size = l.length := by simp [ByteArray.size]
      refine ⟨.string ((⟨l.toArray⟩ : ByteArray).extract n.toNat m.toNat), ?_, ?_⟩
      · have := sliceBounds_run (P := P) w (isSlice := false) (len := l.length) (cap := l.length) bl bh hc.1 hc.2.1 hc.2.2
        simp only [Instr.sliceAt, Instr.slice, Sem.run_bind, run_underlying hu, Result.andThen_ok]
        simp [hsz, this]
      · rw [show (⟨l.toArray⟩ : ByteArray).extract n.toNat m.toNat = ⟨((l.take m.toNat).drop n.toNat).toArray⟩ by
          apply ByteArray.ext; apply Array.ext'; simp [ByteArray.data_extract, List.extract_eq_take_drop, List.drop_take]]
        exact .str _
    · cases h
  · rename_i e sz xs tk hu hX
    rw [hX] at hx
    obtain ⟨n, hn, h⟩ := Option.bind_eq_some_iff.1 h
    obtain ⟨m, hm, h⟩ := Option.bind_eq_some_iff.1 h
    split at h
    · rename_i hc
      obtain ⟨c0, c1, c2, c3⟩ := hc
      cases h
      have bl := bound_run (fun y hy => hE.get y (by simp [ho, Op.operands, hy])) hn
      have bh := bound_run (fun y hy => hE.get y (by simp [ho, Op.operands, hy])) hm
      obtain ⟨inf, hinf, hsz⟩ := Option.map_eq_some_iff.1 c3
      generalize a.eval x = v at *
      cases hx with
      | slc hln hcp hmx hs hr hl ht =>
        rename_i A len cap vs
        subst hln
        have := sliceBounds_run (P := P) w (isSlice := true) (len := xs.length) (cap := cap) bl bh c0 c1 (by omega)
        refine ⟨.slice (if cap = n.toNat then A else A.map (·.add (n.toNat * sz))) (m.toNat - n.toNat) (cap - n.toNat), ?_, ?_⟩
        · simp only [Instr.sliceAt, Instr.slice, Sem.run_bind, run_underlying hu, Result.andThen_ok]
          simp [this, run_size hinf, hsz]
        · have hs' : ∀ x ∈ xs, x.cells.length = sz := fun x hx => (hs x hx).1
          have hd : ∀ y ∈ (xs.take m.toNat).drop n.toNat, y ∈ xs := fun y hy => List.mem_of_mem_take (List.mem_of_mem_drop hy)
          refine .slc (vs := (vs.drop (n.toNat * sz)).take ((m.toNat - n.toNat) * sz)) (by simp; omega) (by omega) (by omega) (fun y hy => hs y (hd y hy)) ?_ ?_ trivial
          · rw [flat_drop _ (fun y hy => hs' y (List.mem_of_mem_take hy)), flat_sub _ hs', List.drop_take, ← Nat.sub_mul]
            exact (hr.drop _).take _
          · split
            · rename_i hcn
              rw [show m.toNat - n.toNat = 0 by omega]
              intro k v hk; simp at hk
            · exact hl.cut _ _
    · cases h
  · rename_i e hu hX
    rw [hX] at hx
    obtain ⟨n, hn, h⟩ := Option.bind_eq_some_iff.1 h
    obtain ⟨m, hm, h⟩ := Option.bind_eq_some_iff.1 h
    split at h
    · rename_i hc
      obtain ⟨e1, e2, c3⟩ := hc
      cases h
      subst e1; subst e2
      have bl := bound_run (fun y hy => hE.get y (by simp [ho, Op.operands, hy])) hn
      have bh := bound_run (fun y hy => hE.get y (by simp [ho, Op.operands, hy])) hm
      obtain ⟨sz, hsz⟩ := Option.isSome_iff_exists.1 c3
      obtain ⟨inf, hinf, hsz⟩ := Option.map_eq_some_iff.1 hsz
      generalize a.eval x = v at *
      cases hx
      have := sliceBounds_run (P := P) w (isSlice := true) (len := 0) (cap := 0) bl bh (by omega) (by omega) (by omega)
      refine ⟨.slice none 0 0, ?_, .nils⟩
      simp only [Instr.sliceAt, Instr.slice, Sem.run_bind, run_underlying hu, Result.andThen_ok]
      simp [this, run_size hinf]
    · cases h
  · cases h

def setL : List AV → Nat → List AV → List AV
  | cs, _, [] => cs
  | cs, i, v :: vs => setL (cs.set i v) (i + 1) vs
def AV.flat : AV → Bool
  | .agg _ => true
  | x => x.one
def aFill (place : Nat → Option (Nat × Nat)) (cells : List AV) : List (Nat × AV) → Option (List AV)
  | [] => some cells
  | (i, v) :: rest =>
    match place i with
    | none => none
    | some (off, size) => if v.cells.length = size ∧ off + v.cells.length ≤ cells.length ∧ v.flat = true then aFill place (setL cells off v.cells) rest else none
theorem setL_rel {G : Gh} {w : World} : ∀ {xs : List AV} {us : List Value} {cs : List AV} {vs : Array Value} (i : Nat), RelL G w xs us → RelL G w cs vs.toList → RelL G w (setL cs i xs) ((us.zipIdx).foldl (fun cs (c, j) => cs.setIfInBounds (i + j) c) vs).toList := by
  intro xs us cs vs i hx hc
  suffices H : ∀ (k : Nat) (xs : List AV) (us : List Value) (cs : List AV) (vs : Array Value), RelL G w xs us → RelL G w cs vs.toList → RelL G w (setL cs (i + k) xs) ((us.zipIdx k).foldl (fun cs (c, j) => cs.setIfInBounds (i + j) c) vs).toList by
    simpa using H 0 xs us cs vs hx hc
  intro k xs
  induction xs generalizing k with
  | nil => intro us cs vs hx hc; cases hx; simpa [setL] using hc
  | cons x xs ih =>
    intro us cs vs hx hc
    cases hx with
    | cons h t =>
      rename_i v us
      simp only [setL, List.zipIdx_cons, List.foldl_cons, Nat.add_assoc]
      exact ih (k + 1) us _ _ t (by simpa using hc.set h (i + k))
theorem setL_one {xs cs : List AV} {i : Nat} (hx : ∀ x ∈ xs, x.one = true) (hc : ∀ c ∈ cs, c.one = true) : ∀ c ∈ setL cs i xs, c.one = true := by
  induction xs generalizing cs i with
  | nil => exact hc
  | cons x xs ih =>
    exact ih (fun y hy => hx y (by simp [hy])) (fun c hcm => by
      rcases List.mem_or_eq_of_mem_set hcm with h | rfl
      · exact hc c h
      · exact hx _ (by simp))
theorem rel_cells_one {G : Gh} {w : World} {x : AV} {v : Value} (h : Rel G w x v) (hx : x.flat = true) : RelL G w x.cells v.cells.toList ∧ ∀ c ∈ x.cells, c.one = true := by
  cases x <;> simp only [AV.flat, AV.one, Bool.false_eq_true] at hx <;> first
    | (cases h with | agg h1 hr => exact ⟨by simpa [AV.cells, Value.cells] using hr, h1⟩)
    | (refine ⟨h.cells (.inl rfl), fun c hc => ?_⟩; simp [AV.cells] at hc; subst hc; rfl)
theorem fill_rel {G : Gh} {w : World} {place : Nat → Option (Nat × Nat)} : ∀ {xs : List (Nat × AV)} {us : List (Nat × Value)} {cs : List AV} {vs : Array Value} {r : List AV},
    (RelL G w (xs.map (·.2)) (us.map (·.2)) ∧ xs.map (·.1) = us.map (·.1)) → RelL G w cs vs.toList → (∀ c ∈ cs, c.one = true) → aFill place cs xs = some r →
    ∃ rv, Instr.fill place vs us = some rv ∧ RelL G w r rv.toList ∧ ∀ c ∈ r, c.one = true
  | [], us, cs, vs, r, ⟨hx, hk⟩, hc, h1, h => by
    cases us with
    | nil => simp only [aFill, Option.some.injEq] at h; subst h; exact ⟨vs, rfl, hc, h1⟩
    | cons u us => simp at hk
  | (i, v) :: rest, us, cs, vs, r, ⟨hx, hk⟩, hc, h1, h => by
    cases us with
    | nil => simp at hk
    | cons u us =>
      obtain ⟨i', u⟩ := u
      simp only [List.map_cons, List.cons.injEq] at hk hx
      obtain ⟨rfl, hk⟩ := hk
      cases hx with
      | cons hv ht =>
        simp only [aFill] at h
        split at h
        · cases h
        · rename_i off size hp
          split at h
          · rename_i hcd
            obtain ⟨c1, c2, c3⟩ := hcd
            obtain ⟨hcl, hone⟩ := rel_cells_one hv c3
            have hl1 := hcl.length
            have hl2 := hc.length
            have hsz1 : u.cells.size = size := by rw [← Array.length_toList, hl1, c1]
            have hle : ¬ off + u.cells.size > vs.size := by rw [← Array.length_toList, hl1, ← Array.length_toList, hl2]; omega
            have := setL_rel off hcl hc
            obtain ⟨rv, hrv, hrel, hr1⟩ := fill_rel (place := place) (vs := (u.cells.toList.zipIdx).foldl (fun cs (c, j) => cs.setIfInBounds (off + j) c) vs) ⟨ht, hk⟩ this (setL_one hone h1) h
            refine ⟨rv, ?_, hrel, hr1⟩
            rw [Instr.fill]
            simp only [hp]
            rw [if_neg (by simp [hsz1]; omega)]
            rw [← hrv]
            congr 1
            rw [← Array.foldl_toList, Array.toList_zipIdx]
          · cases h
end
end Go.Al
end
section
set_option linter.unusedVariables false
set_option linter.unusedSimpArgs false
namespace Go.Al
open Go.RowKit

section
variable {P : Program} {E : AEnv} {o : Oper}

theorem parts_rel {G : Gh} {w : World} {a : Act} (l : List (Nat × Operand)) (hE : ∀ p ∈ l, Rel G w (aeval E p.2) (a.eval p.2)) :
    RelL G w ((l.map fun p => (p.1, aeval E p.2)).map (·.2)) ((l.map fun p => (p.1, a.eval p.2)).map (·.2)) ∧ (l.map fun p => (p.1, aeval E p.2)).map (·.1) = (l.map fun p => (p.1, a.eval p.2)).map (·.1) := by
  refine ⟨?_, by simp only [List.map_map, Function.comp_def]⟩
  simp only [List.map_map, Function.comp_def]
  induction l with
  | nil => exact .nil
  | cons p l ih => exact .cons (hE p (by simp)) (ih fun q hq => hE q (by simp [hq]))

def aBuild (P : Program) (t : TypeId) (parts : List (Nat × AV)) : Option AV :=
  match P.underlying t, (P.info? t).bind (·.zero) with
  | some (.struct fs), some (.agg z) =>
    if z.toList.all (fun c => (aCell c).one) = true ∧ fs.toList.all (fun f => (P.info? f.type).isSome) = true then
      (aFill (fun i => (fs[i]?).map fun f => (f.offset, ((P.info? f.type).map (·.size)).getD 0)) (z.toList.map aCell) parts).map .agg
    else none
  | some (.array n e), some (.agg z) =>
    if z.toList.all (fun c => (aCell c).one) = true then
      match P.info? e with
      | some i => (aFill (fun j => some (j * i.size, i.size)) (z.toList.map aCell) parts).map .agg
      | none => none
    else none
  | _, _ => none
theorem aCells_rel (G : Gh) (w : World) : ∀ l : List Value, RelL G w (l.map aCell) l
  | [] => .nil
  | v :: l => .cons (aCell_rel G w v) (aCells_rel G w l)
theorem mapM_sizes (fs : Array Field) (w : World) (h : fs.toList.all (fun f => (P.info? f.type).isSome) = true) :
    (fs.mapM fun f => do pure (f.offset, ← sizeOf f.type) : Sem (Array (Nat × Nat))).run P w = .ok (fs.map fun f => (f.offset, ((P.info? f.type).map (·.size)).getD 0)) w := by
  rw [← Array.toArray_toList (xs := fs)] at h ⊢
  generalize fs.toList = l at *
  rw [List.mapM_toArray]
  have : ∀ l : List Field, l.all (fun f => (P.info? f.type).isSome) = true → (l.mapM fun f => do pure (f.offset, ← sizeOf f.type) : Sem (List (Nat × Nat))).run P w = .ok (l.map fun f => (f.offset, ((P.info? f.type).map (·.size)).getD 0)) w := by
    intro l
    induction l with
    | nil => intro _; simp
    | cons f l ih =>
      intro h
      simp only [List.all_cons, Bool.and_eq_true] at h
      obtain ⟨i, hi⟩ := Option.isSome_iff_exists.1 h.1
      simp only [List.mapM_cons, Sem.run_bind, run_size hi, Result.andThen_ok, Sem.run_pure, ih h.2]
      simp [hi]
  rw [Sem.run_map, this l h]
  simp
theorem ok_build (t : TypeId) (parts : Array (Nat × Operand)) (ho : o.op = .build t parts) {r : AV} (h : aBuild P t (parts.toList.map fun p => (p.1, aeval E p.2)) = some r) : OpOk P o E r := .plain fun G w a hE => by
  have he : execOp a.eval o = (Instr.build t (parts.map fun (i, x) => (i, a.eval x)) >>= fun v => pure (.value v)) := by simp only [execOp, ho]
  rw [he]
  have hp := parts_rel parts.toList fun p hp => hE.get p.2 (by simp [ho, Op.operands]; exact ⟨p.1, by simpa using hp⟩)
  unfold aBuild at h
  split at h
  · rename_i fs z hu hz
    obtain ⟨inf, hinf, hz⟩ := Option.bind_eq_some_iff.1 hz
    split at h
    · rename_i hc
      obtain ⟨cs, hcs, rfl⟩ := Option.map_eq_some_iff.1 h
      obtain ⟨rv, hrv, hrel, hone⟩ := fill_rel (us := parts.toList.map fun p => (p.1, a.eval p.2)) (vs := z) hp (aCells_rel G w z.toList) (fun c hcm => by
        obtain ⟨x, hx, rfl⟩ := List.mem_map.1 hcm
        exact List.all_eq_true.1 hc.1 x hx) hcs
      refine ⟨.agg rv, ?_, by simpa using Rel.agg hone hrel⟩
      simp only [Instr.build, Sem.run_bind, run_zero hinf hz, Result.andThen_ok, run_underlying hu, mapM_sizes fs w hc.2]
      have e1 : (fun x : Nat => (fs.map fun f : Field => (f.offset, ((P.info? f.type).map (·.size)).getD 0))[x]?) = (fun i : Nat => (fs[i]?).map fun f => (f.offset, ((P.info? f.type).map (·.size)).getD 0)) := by
        funext i; simp
      have e2 : (parts.map fun (i, x) => (i, a.eval x)).toList = parts.toList.map fun p => (p.1, a.eval p.2) := by simp
      rw [e1, e2]
      simp only [Value.cells] at hrv ⊢
      simp [hrv]
    · cases h
  · rename_i n e z hu hz
    obtain ⟨inf, hinf, hz⟩ := Option.bind_eq_some_iff.1 hz
    split at h
    · rename_i hc
      split at h
      · rename_i ie hie
        obtain ⟨cs, hcs, rfl⟩ := Option.map_eq_some_iff.1 h
        obtain ⟨rv, hrv, hrel, hone⟩ := fill_rel (us := parts.toList.map fun p => (p.1, a.eval p.2)) (vs := z) hp (aCells_rel G w z.toList) (fun c hcm => by
          obtain ⟨x, hx, rfl⟩ := List.mem_map.1 hcm
          exact List.all_eq_true.1 hc x hx) hcs
        refine ⟨.agg rv, ?_, by simpa using Rel.agg hone hrel⟩
        simp only [Instr.build, Sem.run_bind, run_zero hinf hz, Result.andThen_ok, run_underlying hu, run_size hie]
        have e2 : (parts.map fun (i, x) => (i, a.eval x)).toList = parts.toList.map fun p => (p.1, a.eval p.2) := by simp
        rw [e2]
        simp only [Value.cells] at hrv ⊢
        simp [hrv]
      · cases h
    · cases h
  · cases h

theorem rest_lies {G : Gh} {w : World} {c : Array Value} {T : TypeId} {fr : Nat × Nat} {vs : List Value} (hv : ∀ (k : Nat) v, vs[k]? = some v → c[k]? = some v) :
    Lies (G.rest w.heap.size vs.length) { w with heap := w.heap.push (.cells c T fr) } (some ⟨w.heap.size, 0, none⟩) vs := fun k v hk => by
  have hlt : k < vs.length := by
    obtain ⟨h, _⟩ := List.getElem?_eq_some_iff.1 hk; exact h
  refine ⟨w.heap.size, 0, rfl, .inr (.inr ⟨rfl, by omega⟩), ?_⟩
  rw [cell_block (c := c) (T := T) (fr := fr) (by simp)]
  simpa using hv k v hk

def aParts : List (Nat × AV) → Nat → Option (List AV)
  | [], _ => some []
  | (i, x) :: rest, k => if i = k then (aParts rest (k + 1)).map (x :: ·) else none
def aBuildSlice (P : Program) (t : TypeId) (len : Nat) (parts : List (Nat × AV)) : Option AV :=
  match P.underlying t with
  | some (.slice e) => match P.info? e with
    | some i => match i.zero with
      | some z =>
        if len = parts.length ∧ z.cells.size = i.size ∧ 0 < i.size ∧ len * i.size ≤ 4096 then
          (aParts parts 0).bind fun xs => if xs.all (fun x => x.flat && (x.cells.length == i.size)) then some (.slc i.size xs .full) else none
        else none
      | none => none
    | none => none
  | _ => none
theorem aParts_spec : ∀ {l : List (Nat × AV)} {k : Nat} {xs : List AV}, aParts l k = some xs → xs = l.map (·.2) ∧ l.map (·.1) = List.range' k l.length
  | [], k, xs, h => by simp [aParts] at h; subst h; exact ⟨rfl, rfl⟩
  | (i, x) :: l, k, xs, h => by
    simp only [aParts] at h
    split at h
    · rename_i e
      obtain ⟨ys, hy, rfl⟩ := Option.map_eq_some_iff.1 h
      obtain ⟨h1, h2⟩ := aParts_spec hy
      refine ⟨by simp [h1], ?_⟩
      simp [h2, e, List.range'_succ]
    · cases h
theorem fill_row {G : Gh} {w : World} (sz : Nat) : ∀ (xs : List (Nat × AV)) (us : List (Nat × Value)) (k : Nat) (vs : Array Value), RelL G w (xs.map (·.2)) (us.map (·.2)) → us.map (·.1) = List.range' k us.length →
    (∀ x ∈ xs.map (·.2), x.flat = true ∧ x.cells.length = sz) → (k + us.length) * sz ≤ vs.size →
    ∃ rv : Array Value, Instr.fill (fun i => some (i * sz, sz)) vs us = some rv ∧ rv.size = vs.size ∧ ∃ ts, RelL G w ((xs.map (·.2)).flatMap AV.cells) ts ∧ ts.length = us.length * sz ∧ (∀ j, j < k * sz → rv[j]? = vs[j]?) ∧ ∀ j v, ts[j]? = some v → rv[k * sz + j]? = some v
  | [], [], k, vs, hx, hk, h1, hl => ⟨vs, rfl, rfl, [], .nil, by simp, fun _ _ => rfl, fun j v h => by simp at h⟩
  | [], u :: us, k, vs, hx, _, _, _ => by simp only [List.map_nil, List.map_cons] at hx; cases hx
  | x :: xs, [], k, vs, hx, _, _, _ => by simp only [List.map_nil, List.map_cons] at hx; cases hx
  | (i, x) :: xs, (i', u) :: us, k, vs, hx, hk, h1, hl => by
    simp only [List.map_cons, List.length_cons, List.range'_succ, List.cons.injEq] at hk hx hl
    obtain ⟨rfl, hk⟩ := hk
    cases hx with
    | cons hv ht =>
      obtain ⟨hf, hcl⟩ := h1 x (by simp)
      obtain ⟨hcr, hone⟩ := rel_cells_one hv hf
      have hus : u.cells.size = sz := by rw [← Array.length_toList, hcr.length, hcl]
      have hone' : ∀ c ∈ u.cells.toList, True := fun _ _ => trivial
      have hmul : (i' + (us.length + 1)) * sz = i' * sz + sz + us.length * sz := by rw [Nat.add_mul, Nat.add_mul]; omega
      have hset : ((u.cells.toList.zipIdx).foldl (fun cs (c, j) => cs.setIfInBounds (i' * sz + j) c) vs) = setAll vs (i' * sz) u.cells.toList := by
        have : ∀ (l : List Value) (q : Nat) (vs : Array Value), ((l.zipIdx q).foldl (fun cs (c, j) => cs.setIfInBounds (i' * sz + j) c) vs) = setAll vs (i' * sz + q) l := by
          intro l
          induction l with
          | nil => intro q vs; rfl
          | cons v l ih => intro q vs; simp only [List.zipIdx_cons, List.foldl_cons, setAll]; rw [ih]; rfl
        exact this _ 0 vs
      have hle : i' * sz + u.cells.toList.length ≤ vs.size := by rw [Array.length_toList, hus]; omega
      obtain ⟨rv, hrv, hsz, ts, hts, hlen, hlow, hget⟩ := fill_row sz xs us (i' + 1) (setAll vs (i' * sz) u.cells.toList) ht hk (fun y hy => h1 y (by simp [hy])) (by rw [setAll_size, show i' + 1 + us.length = i' + (us.length + 1) by omega]; exact hl)
      refine ⟨rv, ?_, hsz.trans (setAll_size ..), u.cells.toList ++ ts, ?_, ?_, ?_, ?_⟩
      · rw [Instr.fill]
        simp only
        rw [if_neg (by simp [hus]; omega), ← hrv]
        congr 1
        rw [← Array.foldl_toList, Array.toList_zipIdx, hset]
      · simp only [List.map_cons, List.flatMap_cons]; exact hcr.append hts
      · rw [List.length_append, hlen, Array.length_toList, hus, List.length_cons, Nat.add_mul]; omega
      · intro j hj
        rw [hlow j (by rw [Nat.add_mul]; omega), setAll_get _ _ _ _ hle, if_neg (by omega)]
      · intro j v hj
        rw [List.getElem?_append] at hj
        split at hj
        · rename_i hjl
          rw [Array.length_toList, hus] at hjl
          rw [hlow _ (by rw [Nat.add_mul]; omega), setAll_get _ _ _ _ hle, if_pos (by rw [Array.length_toList, hus]; omega), Nat.add_sub_cancel_left]
          exact hj
        · rename_i hjl
          rw [Array.length_toList, hus] at hjl hj
          have := hget _ _ hj
          rwa [show (i' + 1) * sz + (j - sz) = i' * sz + j by rw [Nat.add_mul]; omega] at this
theorem ok_buildSlice (t : TypeId) (len : Nat) (parts : Array (Nat × Operand)) (ho : o.op = .buildSlice t len parts) {r : AV} (h : aBuildSlice P t len (parts.toList.map fun p => (p.1, aeval E p.2)) = some r) : OpOk P o E r := ⟨fun w0 G σ w a hI hE => by
  have he : execOp a.eval o = (Instr.buildSlice t len (parts.map fun (i, x) => (i, a.eval x)) >>= fun v => pure (.value v)) := by simp only [execOp, ho]
  rw [he]
  have hp := parts_rel parts.toList fun p hp => hE.get p.2 (by simp [ho, Op.operands]; exact ⟨p.1, by simpa using hp⟩)
  unfold aBuildSlice at h
  split at h
  · rename_i e hu
    split at h
    · rename_i inf hinf
      split at h
      · rename_i z hz
        split at h
        · rename_i hc
          obtain ⟨c1, c2, c3, c4⟩ := hc
          obtain ⟨xs, hxs, h⟩ := Option.bind_eq_some_iff.1 h
          split at h
          · rename_i hall
            cases h
            obtain ⟨hxs', hidx⟩ := aParts_spec hxs
            have hall' : ∀ x ∈ xs, x.flat = true ∧ x.cells.length = inf.size := fun x hx => by
              have := List.all_eq_true.1 hall x hx
              simpa using this
            have hlen : parts.toList.length = len := by rw [c1]; simp
            have hidx' : (parts.toList.map fun p => (p.1, a.eval p.2)).map (·.1) = List.range' 0 (parts.toList.map fun p => (p.1, a.eval p.2)).length := by
              rw [← hp.2, hidx]; simp
            let row : Array Value := (Array.range (len * inf.size)).map (z.cells[· % z.cells.size]!)
            obtain ⟨rv, hrv, hsz, ts, hts, htl, _, hget⟩ := fill_row inf.size (parts.toList.map fun p => (p.1, aeval E p.2)) (parts.toList.map fun p => (p.1, a.eval p.2)) 0 row hp.1 hidx' (by rw [← hxs']; exact hall') (by simp [row, hlen])
            have hts' : ts.length = len * inf.size := by rw [htl]; simp [← hlen]
            have hgr := grows_rest G w (.cells rv e) ts.length
            refine ⟨.slice (some ⟨w.heap.size, 0, none⟩) len len, _, _, ?_, hgr.inv hI, hgr.ext, ?_⟩
            · have h24 : ¬ len * inf.size > 2 ^ 24 := by
                have : (2 : Nat) ^ 24 = 16777216 := by decide
                omega
              have e2 : (parts.map fun (i, x) => (i, a.eval x)).toList = parts.toList.map fun p => (p.1, a.eval p.2) := by simp
              simp only [Instr.buildSlice, Sem.run_bind, run_underlying hu, Result.andThen_ok, run_size hinf, if_neg h24, Sem.run_pure, e2]
              by_cases h0 : len * inf.size = 0
              · have hrow : row = (Array.range (len * inf.size)).map ((#[] : Array Value)[· % (#[] : Array Value).size]!) := by apply Array.ext'; simp [row, h0]
                rw [hrow] at hrv
                simp [h0, newRow]
                simp [h0] at hrv
                simp [hrv]
              · simp only [if_neg h0, Sem.run_bind, run_zero hinf hz, Result.andThen_ok, Sem.run_pure]
                have hrv' : Instr.fill (fun i => some (i * inf.size, inf.size)) ((Array.range (len * inf.size)).map (z.cells[· % z.cells.size]!)) (parts.toList.map fun p => (p.1, a.eval p.2)) = some rv := hrv
                simp only [hrv', newRow, Sem.run_bind, run_newObj, Result.andThen_ok, Sem.run_pure]
            · rw [hxs']
              refine .slc (vs := ts) (by simp [← hlen]) (Nat.le_refl _) ?_ (fun x hx => ⟨(hall' x (hxs' ▸ hx)).2, ?_⟩) (hts.ext hgr.ext) (rest_lies (fun k v hk => by simpa using hget k v hk)) rfl
              · simp only [maxLen]
                have : len ≤ len * inf.size := Nat.le_mul_of_pos_right _ c3
                omega
              · have hf := (hall' x (hxs' ▸ hx)).1
                obtain ⟨i, hi⟩ := List.getElem?_of_mem hx
                obtain ⟨v, _, hrel⟩ := hp.1.get hi
                exact (rel_cells_one hrel hf).2
          · cases h
        · cases h
      · cases h
    · cases h
  · cases h⟩
end
end Go.Al
end
section
set_option linter.unusedVariables false
set_option linter.unusedSimpArgs false
namespace Go.Al
open Go.RowKit

structure Ro where
  l : Option Nat
  lo : Nat
def wideAt (ro : Ro) : Fence := { Fence.wide with round := ro.l }
theorem wideAt_none (lo : Nat) : wideAt ⟨none, lo⟩ = Fence.wide := rfl
theorem defer_run {ρ : Operand → Value} {o : Oper} {c : Call} (ho : o.op = .defer c) {P : Program} {w w' : World} {x : Next} (h : (execOp ρ o).run P w = .ok x w') : ∃ d, x = .defer d := by
  simp only [execOp, ho, Sem.run_bind] at h
  cases hr : (resolve ρ c o.type).run P w with
  | ok d w1 =>
    rw [hr] at h
    simp only [Result.andThen_ok, Sem.run_pure, Result.ok.injEq] at h
    exact ⟨d, h.1.symm⟩
  | halt y w1 =>
    rw [hr] at h
    cases h
theorem sem_at {ρ : Operand → Value} {o : Oper} {P : Program} {w w' : World} {x : Next} (h : (execOp ρ o).run P w = .ok x w') (hx : ∀ d, x ≠ .defer d) (ro : Ro) : (Oper.semAt (wideAt ro).round ρ o).run P w = .ok x w' := by
  rw [Oper.semAt_eq _ ρ o fun c hc => by obtain ⟨d, e⟩ := defer_run hc h; exact hx d e, h]
theorem wide_value {P : Program} {o : Oper} {a : Act} {w w' : World} {v : Value} {next : Act → World → Prop} {Qx : Exit → Act → World → Prop} (hr : (execOp a.eval o).run P w = .ok (.value v) w') (h : next (a.put o.dst v) w') (ro : Ro) : o.wpIn (wideAt ro) 0 P a w next Qx := by
  refine ⟨fun _ _ => trivial, ?_⟩
  rw [sem_at hr (by intro d e; cases e) ro]; exact h
theorem wide_skip {P : Program} {o : Oper} {a : Act} {w w' : World} {next : Act → World → Prop} {Qx : Exit → Act → World → Prop} (hr : (execOp a.eval o).run P w = .ok .skip w') (h : next (a.put o.dst undef) w') (ro : Ro) : o.wpIn (wideAt ro) 0 P a w next Qx := by
  refine ⟨fun _ _ => trivial, ?_⟩
  rw [sem_at hr (by intro d e; cases e) ro]; exact h
theorem callsIn_at {P : Program} {f : FuncId} {args : Array Value} {w : World} {R : Ending → World → Prop} (h : Calls P f args w R) (ro : Ro) : CallsIn (wideAt ro) 0 P f args w R := callsIn_wide.2 h
theorem wide_enter {P : Program} {o : Oper} {a : Act} {w w' : World} {f : FuncId} {args : Array Value} {next : Act → World → Prop} {Qx : Exit → Act → World → Prop} (hr : (execOp a.eval o).run P w = .ok (.enter f args) w')
    (h : Calls P f args w' fun
      | .returned v, w'' => next (a.put o.dst v) w''
      | .panicked chain, w'' => Qx (.panic chain) a w''
      | .outgrown, _ => LetsOut Qx) (ro : Ro) : o.wpIn (wideAt ro) 0 P a w next Qx := by
  refine ⟨fun _ _ => trivial, ?_⟩
  rw [sem_at hr (by intro d e; cases e) ro]
  exact ⟨fun e => by simp [wideAt, Fence.wide] at e, callsIn_at h ro⟩
structure OpW (P : Program) (w0 : Base) (o : Oper) (E : AEnv) (σ : St) (K : AV → St → Prop) : Prop where
  go : ∀ G w a, Inv w0 G σ w → RelO G w E a o → ∀ (next : Act → World → Prop) (Qx : Exit → Act → World → Prop),
    (∀ v w' G' r σ', K r σ' → Inv w0 G' σ' w' → Ext G w G' w' → Rel G' w' r v → next (a.put o.dst v) w') → ∀ ro, o.wpIn (wideAt ro) 0 P a w next Qx
theorem OpW.mono {P : Program} {w0 : Base} {o : Oper} {E : AEnv} {σ : St} {K K' : AV → St → Prop} (h : OpW P w0 o E σ K) (hk : ∀ r s, K r s → K' r s) : OpW P w0 o E σ K' :=
  ⟨fun G w a hI hE next Qx hn => h.go G w a hI hE next Qx fun v w' G' r s hr => hn v w' G' r s (hk r s hr)⟩
theorem OpOk.w {P : Program} {w0 : Base} {o : Oper} {E : AEnv} {r : AV} (h : OpOk P o E r) (σ : St) : OpW P w0 o E σ (fun r' σ' => r' = r ∧ σ' = σ) :=
  ⟨fun G w a hI hE next Qx hn => by
    obtain ⟨v, w', G', hr, hI', e, hrel⟩ := h.go w0 G σ w a hI hE
    have := hn v w' G' r σ ⟨rfl, rfl⟩ hI' e hrel
    exact wide_value hr this⟩
theorem OpW.value {P : Program} {w0 : Base} {o : Oper} {E : AEnv} {σ : St} {K : AV → St → Prop}
    (h : ∀ G w a, Inv w0 G σ w → RelO G w E a o → ∃ v w' G' r σ', (execOp a.eval o).run P w = .ok (.value v) w' ∧ K r σ' ∧ Inv w0 G' σ' w' ∧ Ext G w G' w' ∧ Rel G' w' r v) : OpW P w0 o E σ K :=
  ⟨fun G w a hI hE next Qx hn => by
    obtain ⟨v, w', G', r, σ', hr, hk, hI', e, hrel⟩ := h G w a hI hE
    have := hn v w' G' r σ' hk hI' e hrel
    exact wide_value hr this⟩
theorem OpW.skip {P : Program} {w0 : Base} {o : Oper} {E : AEnv} {σ : St} {K : AV → St → Prop}
    (h : ∀ G w a, Inv w0 G σ w → RelO G w E a o → ∃ w' G' σ', (execOp a.eval o).run P w = .ok .skip w' ∧ K .und σ' ∧ Inv w0 G' σ' w' ∧ Ext G w G' w') : OpW P w0 o E σ K :=
  ⟨fun G w a hI hE next Qx hn => by
    obtain ⟨w', G', σ', hr, hk, hI', e⟩ := h G w a hI hE
    have := hn undef w' G' .und σ' hk hI' e (.und _)
    exact wide_skip hr this⟩

section
variable {P : Program} {w0 : Base} {E : AEnv} {σ : St} {o : Oper} {K : AV → St → Prop}

theorem fresh_at {G : Gh} {w : World} (hI : Inv w0 G σ w) (T : Nat) (hT : T < 4096) : ∃ i, (G.box i = none ∧ i % 4096 = T) ∧ σ.box i = none := by
  obtain ⟨N, hN⟩ := hI.fresh
  have hle : N ≤ 4096 * N + T := by omega
  refine ⟨4096 * N + T, ⟨(hN _ hle).1, by omega⟩, ?_⟩
  cases hb : σ.box (4096 * N + T) with
  | none => rfl
  | some cs =>
    obtain ⟨m, _, _, h1, _⟩ := (hI.box _ cs hb).ex
    rw [(hN _ hle).1] at h1; cases h1
theorem fresh_box {G : Gh} {w : World} (hI : Inv w0 G σ w) : ∃ i, (G.box i = none ∧ tagOf i = none) ∧ σ.box i = none := by
  obtain ⟨i, ⟨h1, h2⟩, h3⟩ := fresh_at hI 0 (by omega)
  exact ⟨i, ⟨h1, by simp [tagOf, h2]⟩, h3⟩
theorem fresh_tok {G : Gh} {w : World} (hI : Inv w0 G σ w) : ∃ i, G.tok i = none ∧ σ.tok i = false := by
  obtain ⟨N, hN⟩ := hI.fresh
  refine ⟨N, (hN N (Nat.le_refl _)).2, ?_⟩
  cases hb : σ.tok N with
  | false => rfl
  | true =>
    obtain ⟨m, _, _, _, _, _, h1, _⟩ := (hI.tok N hb).ex
    rw [(hN N (Nat.le_refl _)).2] at h1; cases h1
theorem inv_boxT {G : Gh} {w : World} (hI : Inv w0 G σ w) {i : Nat} (hi : G.box i = none) {cs : List AV} {c : Array Value} (T : TypeId) (htag : ∀ t, tagOf i = some t → T = t) (hr : RelL G w cs c.toList) :
    Inv w0 (G.withBox i w.heap.size) (σ.setBox i cs) { w with heap := w.heap.push (.cells c T) } ∧ Ext G w (G.withBox i w.heap.size) { w with heap := w.heap.push (.cells c T) } := by
  have hg := grows_box G w (.cells c T) i hi
  have hI' := hg.inv hI
  have e := hg.ext
  have hnew : (G.withBox i w.heap.size).box i = some w.heap.size := by simp [Gh.withBox]
  have hlt : ∀ j m, (σ.box j).isSome = true → (G.withBox i w.heap.size).box j = some m → m < w.heap.size := fun j m hj hm => by
    obtain ⟨ds, hd⟩ := Option.isSome_iff_exists.1 hj
    obtain ⟨m', _, _, h1, _⟩ := (hI.box j ds hd).ex
    rw [e.box j m' h1] at hm
    obtain rfl : m' = m := Option.some.inj hm
    exact hI.boxlt j m' h1
  have hsome : ∀ j, ((σ.setBox i cs).box j).isSome = true → j = i ∨ (σ.box j).isSome = true := fun j hj => by
    by_cases ej : j = i
    · exact .inl ej
    · right; simpa [St.setBox, ej] using hj
  refine ⟨⟨hI'.base, hI'.old, fun j ds hd => ?_, fun a b m ha hb e1 e2 => ?_, hI'.tok, hI'.tinj, fun a t m q l ha ht e1 e2 => ?_, hI'.immlt, hI'.boxlt, hI'.toklt, hI'.fresh, hI'.obj⟩, e⟩
  · by_cases ej : j = i
    · subst ej
      simp only [St.setBox, if_true, Option.some.injEq] at hd
      subst hd
      refine ⟨w.heap.size, c, T, hnew, hI.size, by simp, hr.ext e, ⟨fun q hq => ?_, htag⟩⟩
      have := hI.immlt _ _ hq
      omega
    · exact hI'.box j ds (by simpa [St.setBox, ej] using hd)
  · rcases hsome a ha with rfl | ha' <;> rcases hsome b hb with rfl | hb'
    · rfl
    · rw [hnew] at e1; cases e1
      have := hlt b _ hb' e2; omega
    · rw [hnew] at e2; cases e2
      have := hlt a _ ha' e1; omega
    · exact hI'.binj a b m ha' hb' e1 e2
  · rcases hsome a ha with rfl | ha'
    · rw [hnew] at e1; cases e1
      obtain ⟨m', a', l', _, _, _, h1, _⟩ := (hI.tok t ht).ex
      rw [e.tok t _ h1] at e2
      cases e2
      have := hI.toklt t _ _ _ h1
      omega
    · exact hI'.apart a t m q l ha' ht e1 e2
theorem inv_box {G : Gh} {w : World} (hI : Inv w0 G σ w) {i : Nat} (hi : G.box i = none ∧ tagOf i = none) {cs : List AV} {c : Array Value} (T : TypeId) (hr : RelL G w cs c.toList) :
    Inv w0 (G.withBox i w.heap.size) (σ.setBox i cs) { w with heap := w.heap.push (.cells c T) } ∧ Ext G w (G.withBox i w.heap.size) { w with heap := w.heap.push (.cells c T) } :=
  inv_boxT hI hi.1 T (fun t ht => by rw [hi.2] at ht; cases ht) hr

def aZero (P : Program) (t : TypeId) : Option (List AV) :=
  match (P.info? t).bind (·.zero) with
  | some z => if z.cells.toList.all (fun c => (aCell c).one) then some (z.cells.toList.map aCell) else none
  | none => none
theorem w_alloc (t : TypeId) (ho : o.op = .alloc t) {cs : List AV} (hz : aZero P t = some cs) (hk : ∀ i, σ.box i = none → K (.ptr i 0) (σ.setBox i cs)) : OpW P w0 o E σ K := .value fun G w a hI hE => by
  unfold aZero at hz
  split at hz
  · rename_i z hzz
    obtain ⟨inf, hinf, hz0⟩ := Option.bind_eq_some_iff.1 hzz
    split at hz
    · cases hz
      obtain ⟨i, hi, hs⟩ := fresh_box hI
      obtain ⟨h1, h2⟩ := inv_box hI hi t (aCells_rel G w z.cells.toList)
      refine ⟨_, _, _, _, _, ?_, hk i hs, h1, h2, .ptr (m := w.heap.size) (by simp [Gh.withBox])⟩
      have he : execOp a.eval o = (Instr.alloc t true (.tuple #[]) >>= fun v => pure (.value v)) := by simp only [execOp, ho]
      rw [he]
      simp [Instr.alloc, run_zero hinf hz0, newVar, newRow]
    · cases hz
  · cases hz
theorem w_allocT (t : TypeId) (ho : o.op = .alloc t) {cs : List AV} (hz : aZero P t = some cs) (hT : 0 < t ∧ t < 4096) (hk : ∀ i, tagOf i = some t → σ.box i = none → K (.ptr i 0) (σ.setBox i cs)) : OpW P w0 o E σ K := .value fun G w a hI hE => by
  unfold aZero at hz
  split at hz
  · rename_i z hzz
    obtain ⟨inf, hinf, hz0⟩ := Option.bind_eq_some_iff.1 hzz
    split at hz
    · cases hz
      obtain ⟨i, ⟨hi, him⟩, hs⟩ := fresh_at hI t hT.2
      have hne : ¬ i % 4096 = 0 := fun e => by rw [him] at e; exact absurd hT.1 (by rw [e]; exact Nat.lt_irrefl 0)
      have htag : tagOf i = some t := by rw [tagOf, if_neg hne, him]
      obtain ⟨h1, h2⟩ := inv_boxT hI hi t (fun t' ht => by rw [htag] at ht; exact Option.some.inj ht) (aCells_rel G w z.cells.toList)
      refine ⟨_, _, _, _, _, ?_, hk i htag hs, h1, h2, .ptr (m := w.heap.size) (by simp [Gh.withBox])⟩
      have he : execOp a.eval o = (Instr.alloc t true (.tuple #[]) >>= fun v => pure (.value v)) := by simp only [execOp, ho]
      rw [he]
      simp [Instr.alloc, run_zero hinf hz0, newVar, newRow]
    · cases hz
  · cases hz
theorem w_box (t : TypeId) (x : Operand) (ho : o.op = .box t x) (hx : (aeval E x).flat = true) (hk : ∀ i, σ.box i = none → K (.ptr i 0) (σ.setBox i (aeval E x).cells)) : OpW P w0 o E σ K := .value fun G w a hI hE => by
  obtain ⟨hr, _⟩ := rel_cells_one (hE.get x (by simp [ho, Op.operands, Call.operands])) hx
  obtain ⟨i, hi, hs⟩ := fresh_box hI
  obtain ⟨h1, h2⟩ := inv_box hI hi t hr
  refine ⟨_, _, _, _, _, ?_, hk i hs, h1, h2, .ptr (m := w.heap.size) (by simp [Gh.withBox])⟩
  have he : execOp a.eval o = (Instr.box t (a.eval x) >>= fun v => pure (.value v)) := by simp only [execOp, ho]
  rw [he]
  simp [Instr.box, newVar, newRow]

def aLoadBox (P : Program) (t : TypeId) (cs : List AV) (off : Nat) : Option AV :=
  match P.underlying t, (P.info? t).map (·.size) with
  | some d, some n => if aggD d then (if ((cs.drop off).take n).length = n ∧ ((cs.drop off).take n).all AV.one = true then some (.agg ((cs.drop off).take n)) else none) else cs[off]?
  | _, _ => none
theorem load_run {G : Gh} {w : World} {t : TypeId} {cs : List AV} {vs : List Value} {m q off : Nat} {r : AV} (hr : RelL G w cs vs) (hl : ∀ k v, vs[k]? = some v → w.cell? ⟨m, q + k, none⟩ = some v) (h : aLoadBox P t cs off = some r) :
    ∃ v, (loadVar t ⟨m, q + off, none⟩).run P w = .ok v w ∧ Rel G w r v := by
  unfold aLoadBox at h
  split at h
  · rename_i d n hd hn
    obtain ⟨i, hi, rfl⟩ := Option.map_eq_some_iff.1 hn
    split at h
    · rename_i ha
      split at h
      · rename_i hc
        cases h
        have hr' := (hr.drop off).take i.size
        have hlen := hr'.length
        refine ⟨.agg ((vs.drop off).take i.size).toArray, ?_, .agg (fun c hcm => List.all_eq_true.1 hc.2 c hcm) hr'⟩
        have hld := run_loadCells_list (P := P) w ⟨m, q + off, none⟩ ((vs.drop off).take i.size) (fun j v hj => by
          rw [addr_add, Nat.add_assoc]
          refine hl (off + j) v ?_
          rw [List.getElem?_take] at hj
          split at hj
          · rwa [List.getElem?_drop] at hj
          · cases hj)
        rw [hlen, hc.1] at hld
        simp only [loadVar, Sem.run_bind, run_isAgg hd, Result.andThen_ok, ha, if_true, run_size hi, hld, Sem.run_pure]
      · cases h
    · rename_i ha
      have ha' : aggD d = false := by simpa using ha
      obtain ⟨v, hv, hrel⟩ := hr.get h
      refine ⟨v, ?_, hrel⟩
      simp only [loadVar, Sem.run_bind, run_isAgg hd, Result.andThen_ok, ha', Bool.false_eq_true, if_false, run_load, hl off v hv]
  · cases h
theorem w_load (t : TypeId) (x : Operand) (ho : o.op = .load t x) {b off : Nat} (hx : aeval E x = .ptr b off) {cs : List AV} (hb : σ.box b = some cs) {r : AV} (h : aLoadBox P t cs off = some r) : OpW P w0 o E σ (fun r' σ' => r' = r ∧ σ' = σ) := .value fun G w a hI hE => by
  have hxr := hE.get x (by simp [ho, Op.operands, Call.operands])
  have he : execOp a.eval o = (Instr.loadAt t (a.eval x) >>= fun v => pure (.value v)) := by simp only [execOp, ho]
  rw [he]
  rw [hx] at hxr
  generalize a.eval x = v at *
  cases hxr with
  | ptr hgb =>
    rename_i mm
    obtain ⟨m, c, T, h1, h2, h3, h4, h5⟩ := (hI.box b cs hb).ex
    obtain rfl : m = mm := by rw [h1] at hgb; exact Option.some.inj hgb
    obtain ⟨v, hv, hrel⟩ := load_run (P := P) (t := t) (m := m) (q := 0) h4 (fun k v hk => by
      rw [cell_block h3, Nat.zero_add]; simpa using hk) h
    rw [Nat.zero_add] at hv
    exact ⟨v, w, G, r, σ, by simp [Instr.loadAt, Instr.sureAddr, hv], ⟨rfl, rfl⟩, hI, .refl G w, hrel⟩
def aLoadVp (P : Program) (t : TypeId) (x : AV) : Option AV :=
  match x with
  | .vp y => aLoadBox P t y.cells 0
  | _ => none
theorem ok_loadVp (t : TypeId) (x : Operand) (ho : o.op = .load t x) {r : AV} (h : aLoadVp P t (aeval E x) = some r) : OpOk P o E r := .plain fun G w a hE => by
  have hxr := hE.get x (by simp [ho, Op.operands, Call.operands])
  have he : execOp a.eval o = (Instr.loadAt t (a.eval x) >>= fun v => pure (.value v)) := by simp only [execOp, ho]
  rw [he]
  unfold aLoadVp at h
  split at h
  · rename_i y hy
    rw [hy] at hxr
    generalize a.eval x = v at *
    cases hxr with
    | vp h1 hr hl =>
      rename_i b q vs
      obtain ⟨v, hv, hrel⟩ := load_run (P := P) (t := t) (m := b) (q := q) hr (fun k v hk => by
        obtain ⟨b', o', e, _, hc⟩ := hl k v hk
        cases e; exact hc) h
      rw [Nat.add_zero] at hv
      exact ⟨v, by simp [Instr.loadAt, Instr.sureAddr, hv], hrel⟩
  · cases h

theorem rel_oneCell {G : Gh} {w : World} {x : AV} {v : Value} (h : Rel G w x v) (hx : x.one = true) : v.oneCell' = true := by
  cases h <;> first | rfl | (simp [AV.one] at hx)
theorem relL_oneCell {G : Gh} {w : World} : ∀ {xs : List AV} {vs : List Value}, RelL G w xs vs → (∀ x ∈ xs, x.one = true) → ∀ v ∈ vs, v.oneCell' = true
  | _, _, .nil, _, v, hv => by simp at hv
  | _, _, .cons h t, hx, v, hv => by
    rcases List.mem_cons.1 hv with rfl | hv
    · exact rel_oneCell h (hx _ (by simp))
    · exact relL_oneCell t (fun x h => hx x (by simp [h])) v hv
theorem setAll_rel {G : Gh} {w : World} : ∀ {xs : List AV} {us : List Value} {cs : List AV} {c : Array Value} (i : Nat), RelL G w xs us → RelL G w cs c.toList → RelL G w (setL cs i xs) (setAll c i us).toList
  | _, _, cs, c, i, .nil, hc => hc
  | _, _, cs, c, i, .cons h t, hc => by
    rw [setL, setAll]
    exact setAll_rel (i + 1) t (by simpa using hc.set h i)
theorem w_store (t : TypeId) (x y : Operand) (ho : o.op = .store t x y) {b off : Nat} (hx : aeval E x = .ptr b off) {cs : List AV} (hb : σ.box b = some cs) (hy : (aeval E y).flat = true) (hsz : (P.info? t).map (·.size) = some (aeval E y).cells.length)
    (hl : off + (aeval E y).cells.length ≤ cs.length) (hk : K .und (σ.setBox b (setL cs off (aeval E y).cells))) : OpW P w0 o E σ K := .skip fun G w a hI hE => by
  have hxr := hE.get x (by simp [ho, Op.operands, Call.operands])
  have hyr := hE.get y (by simp [ho, Op.operands, Call.operands])
  have he : execOp a.eval o = (Instr.storeAt t (a.eval x) (a.eval y) >>= fun _ => pure .skip) := by simp only [execOp, ho]
  rw [he]
  rw [hx] at hxr
  generalize a.eval x = v at *
  generalize a.eval y = u at *
  obtain ⟨hcr, hone⟩ := rel_cells_one hyr hy
  obtain ⟨i, hi, his⟩ := Option.map_eq_some_iff.1 hsz
  cases hxr with
  | ptr hgb =>
    rename_i mm
    obtain ⟨m, c, T, h1, h2, h3, h4, h5⟩ := (hI.box b cs hb).ex
    obtain rfl : m = mm := by rw [h1] at hgb; exact Option.some.inj hgb
    have hlen := hcr.length
    have hcl := h4.length
    obtain ⟨w', hr, R⟩ := run_storeCells P m T (0, 0) off u.cells.toList 0 c w h3 (.inl rfl) (by rw [Nat.add_zero, hlen, ← Array.length_toList, hcl]; exact hl) (relL_oneCell hcr hone)
    rw [Nat.add_zero] at R
    obtain ⟨hI', e⟩ := hI.write (cs' := setL cs off (aeval E y).cells) hb h1 h3 h5 h2 R (fun e => setAll_rel off (hcr.ext e) (h4.ext e))
    refine ⟨w', G, _, ?_, hk, hI', e⟩
    have hne : ¬ u.cells.size ≠ i.size := by rw [← Array.length_toList, hlen, his]; simp
    simp only [Instr.storeAt, Instr.sureAddr, storeVar, Sem.run_bind, Sem.run_pure, Result.andThen_ok, run_size hi, if_neg hne, hr]
end
end Go.Al
end
section
set_option linter.unusedVariables false
set_option linter.unusedSimpArgs false
namespace Go.Al
open Go.RowKit

theorem growBy_four (n c : Nat) : Builtin.growBy n 4 c =
    if c ≥ n then c else
    if c + (c + 768) / 4 ≥ n then c + (c + 768) / 4 else
    if c + (c + 768) / 4 + (c + (c + 768) / 4 + 768) / 4 ≥ n then c + (c + 768) / 4 + (c + (c + 768) / 4 + 768) / 4 else
    if c + (c + 768) / 4 + (c + (c + 768) / 4 + 768) / 4 + (c + (c + 768) / 4 + (c + (c + 768) / 4 + 768) / 4 + 768) / 4 ≥ n
    then c + (c + 768) / 4 + (c + (c + 768) / 4 + 768) / 4 + (c + (c + 768) / 4 + (c + (c + 768) / 4 + 768) / 4 + 768) / 4 else
    c + (c + 768) / 4 + (c + (c + 768) / 4 + 768) / 4 + (c + (c + 768) / 4 + (c + (c + 768) / 4 + 768) / 4 + 768) / 4 +
      (c + (c + 768) / 4 + (c + (c + 768) / 4 + 768) / 4 + (c + (c + 768) / 4 + (c + (c + 768) / 4 + 768) / 4 + 768) / 4 + 768) / 4 := rfl
theorem nextcap_le {need old : Nat} (h : old < need) : Builtin.nextslicecap need old ≤ 2 * need := by
  unfold Builtin.nextslicecap
  split
  · omega
  · split
    · omega
    · rw [growBy_four]
      repeat' split
      all_goals omega

def aSrc (sz : Nat) : AV → Option (List AV)
  | .slc sz' ys _ => if sz' = sz then some ys else none
  | .nils => some []
  | .str l => if sz = 1 then some (aBytes l) else none
  | _ => none
theorem aBytes_rel (G : Gh) (w : World) : ∀ l : List UInt8, RelL G w (aBytes l) (l.map fun b => .int .u8 b.toNat)
  | [] => .nil
  | b :: l => .cons (.int .u8 b.toNat) (aBytes_rel G w l)
theorem aBytes_cells (l : List UInt8) : (aBytes l).flatMap AV.cells = aBytes l := by
  induction l with
  | nil => rfl
  | cons b l ih => simp only [aBytes, List.map_cons, List.flatMap_cons] at ih ⊢; rw [ih]; rfl
theorem aBytes_one (l : List UInt8) : ∀ x ∈ aBytes l, x.cells.length = 1 ∧ ∀ c ∈ x.cells, c.one = true := fun x hx => by
  obtain ⟨b, _, rfl⟩ := List.mem_map.1 hx
  exact ⟨rfl, fun c hc => by simp [aByte, AV.cells] at hc; subst hc; rfl⟩
theorem src_run {P : Program} {G : Gh} {w : World} {sz : Nat} {x : AV} {v : Value} {ys : List AV} (h : aSrc sz x = some ys) (hx : Rel G w x v) :
    (Builtin.lenOf v).run P w = .ok ys.length w ∧ ∃ vs, (Builtin.firstCells sz ys.length v).run P w = .ok vs.toArray w ∧ RelL G w (ys.flatMap AV.cells) vs ∧ vs.length = ys.length * sz ∧ ∀ y ∈ ys, y.cells.length = sz ∧ ∀ c ∈ y.cells, c.one = true := by
  cases hx <;> simp only [aSrc] at h <;> try cases h
  · split at h
    · cases h
      rename_i l hsz
      subst hsz
      have hl : (⟨l.toArray⟩ : ByteArray).size = l.length := by simp [ByteArray.size]
      refine ⟨by simp [Builtin.lenOf, hl, aBytes], l.map fun b => .int .u8 b.toNat, ?_, by rw [aBytes_cells]; exact aBytes_rel G w l, by simp [aBytes], aBytes_one l⟩
      simp only [Builtin.firstCells, Sem.run_pure]
      congr 1
      apply Array.ext'
      simp [ByteArray.data_extract, aBytes]
    · cases h
  · exact ⟨rfl, [], rfl, .nil, by simp, by simp⟩
  · rename_i sz' xs tk A n cap vs hn hc hm hsz hr hl ht
    split at h
    · cases h
      rename_i e
      subst e
      subst hn
      have hlen : vs.length = ys.length * sz' := by
        rw [hr.length, List.length_flatMap]
        have : (ys.map fun x => x.cells.length) = List.replicate ys.length sz' := List.eq_replicate_iff.2 ⟨by simp, fun b hb => by
          obtain ⟨y, hy, rfl⟩ := List.mem_map.1 hb
          exact (hsz y hy).1⟩
        rw [this]; simp
      refine ⟨rfl, vs, ?_, hr, hlen, hsz⟩
      cases A with
      | none =>
        have : vs = [] := by
          cases vs with
          | nil => rfl
          | cons v vs => obtain ⟨b, q, e, _⟩ := hl 0 v rfl; cases e
        subst this
        rfl
      | some ad =>
        simp only [Builtin.firstCells]
        exact lies_load hl ad rfl _ hlen
    · cases h

structure AppT (P : Program) (t u : TypeId) (e : TypeId) (i : TypeInfo) (z : Value) : Prop where
  ht : P.underlying t = some (.slice e)
  hu : P.underlying u = some .string ∨ ∃ e', P.underlying u = some (.slice e')
  hi : P.info? e = some i
  hz : i.zero = some z
  hs : z.cells.size = i.size

section
variable {P : Program} {w0 : Base} {E : AEnv} {σ : St} {o : Oper} {K : AV → St → Prop}

theorem append_run {t u e : TypeId} {i : TypeInfo} {z : Value} (T : AppT P t u e i z) (ty : TypeId) {w : World} {A : Option Addr} {len cap : Nat} {v : Value} {ys : List AV} {vs : List Value}
    (hl : (Builtin.lenOf v).run P w = .ok ys.length w) (hf : (Builtin.firstCells i.size ys.length v).run P w = .ok vs.toArray w) :
    (len + ys.length ≤ cap → (Builtin.append_ #[t, u] ty #[.slice A len cap, v]).run P w = (match A with | some a => ((storeCells (a.add (len * i.size)) vs).run P w).andThen fun _ w' => .ok (.slice A (len + ys.length) cap) w' | none => .ok (.slice A (len + ys.length) cap) w)) ∧
    (cap < len + ys.length → (len + ys.length) * i.bytes ≤ 140737488355328 → len + ys.length < 9223372036854775808 → ∀ os us, (Builtin.firstCells i.size len (.slice A len cap)).run P { w with drawn := w.drawn + 1 } = .ok os { w with drawn := w.drawn + 1 } → (Builtin.firstCells i.size ys.length v).run P { w with drawn := w.drawn + 1 } = .ok us { w with drawn := w.drawn + 1 } →
      ∃ newCap, len + ys.length ≤ newCap ∧ newCap < 9223372036854775808 ∧ (Builtin.append_ #[t, u] ty #[.slice A len cap, v]).run P w =
        .ok (.slice (some ⟨w.heap.size, 0, none⟩) (len + ys.length) newCap) { w with drawn := w.drawn + 1, heap := w.heap.push (.cells (os ++ us ++ Builtin.zeroCells z.cells (newCap - (len + ys.length))) e) }) := by
  obtain ⟨ht, hu, hi, hz, hzs⟩ := T
  refine ⟨fun hc => ?_, fun hc hb hm os us hos hvs => ?_⟩
  · rcases hu with hu | ⟨e', hu⟩ <;> (simp only [Builtin.append_, List.getElem?_toArray, List.getElem?_cons_zero, List.getElem?_cons_succ, Sem.run_bind, run_underlying ht, run_underlying hu, Result.andThen_ok, run_size hi, Sem.run_pure, Bool.false_eq_true, if_false, hl, hf, if_pos hc, Bool.not_false, if_true]; cases A <;> simp)
  · have hnc : ¬ len + ys.length ≤ cap := by omega
    have h48 : ¬ Builtin.nextslicecap (len + ys.length) cap * i.bytes > 2 ^ 48 := by
      have := nextcap_le hc
      have : Builtin.nextslicecap (len + ys.length) cap * i.bytes ≤ 2 * (len + ys.length) * i.bytes := Nat.mul_le_mul_right _ this
      rw [Nat.mul_assoc] at this
      have h2 : (2 : Nat) ^ 48 = 281474976710656 := by decide
      omega
    refine ⟨(Question.appendCap (len + ys.length) cap e).cut (w.tape w.drawn (.appendCap (len + ys.length) cap e)), ?_, ?_, ?_⟩
    · simp only [Question.cut]; omega
    · simp only [Question.cut]
      have : (w.tape w.drawn (.appendCap (len + ys.length) cap e)) % (2 ^ 63 - (len + ys.length)) < 2 ^ 63 - (len + ys.length) := Nat.mod_lt _ (by
        have : (2 : Nat) ^ 63 = 9223372036854775808 := by decide
        omega)
      have : (2 : Nat) ^ 63 = 9223372036854775808 := by decide
      omega
    · by_cases hbz : i.bytes = 0
      · have hmx : ¬ ((len + ys.length : Nat) : Int) > IntKind.i64.max := by
          have : IntKind.i64.max = 9223372036854775807 := by decide
          rw [this]; omega
        rcases hu with hu | ⟨e', hu⟩ <;> (simp only [Builtin.append_, List.getElem?_toArray, List.getElem?_cons_zero, List.getElem?_cons_succ, Sem.run_bind, run_underlying ht, run_underlying hu, Result.andThen_ok, run_size hi, Sem.run_pure, Bool.false_eq_true, if_false, hl, if_neg hnc, Bool.not_false, if_true, typeInfo, run_program, hi, hbz, Sem.run_ite, hmx, false_and, run_choose, Question.forced, run_askRoom, hos, hvs, run_zero hi hz, newRow, run_newObj]; simp)
      · rcases hu with hu | ⟨e', hu⟩ <;> (simp only [Builtin.append_, List.getElem?_toArray, List.getElem?_cons_zero, List.getElem?_cons_succ, Sem.run_bind, run_underlying ht, run_underlying hu, Result.andThen_ok, run_size hi, Sem.run_pure, Bool.false_eq_true, if_false, hl, if_neg hnc, Bool.not_false, if_true, typeInfo, run_program, hi, hbz, Sem.run_ite, if_neg h48, false_or, and_false, run_choose, Question.forced, run_askRoom, hos, hvs, run_zero hi hz, newRow, run_newObj])
end
end Go.Al
end
section
set_option linter.unusedVariables false
set_option linter.unusedSimpArgs false
namespace Go.Al
open Go.RowKit

theorem nils_slc {G : Gh} {w : World} {v : Value} (sz : Nat) (h : Rel G w .nils v) : Rel G w (.slc sz [] .full) v := by
  cases h
  exact .slc (vs := []) rfl (Nat.le_refl _) (Nat.zero_le _) (by simp) .nil (fun k v hk => by simp at hk) rfl
def aBase (sz : Nat) : AV → Option (List AV × Tok)
  | .nils => some ([], .full)
  | .slc sz' xs t => if sz' = sz then some (xs, t) else none
  | _ => none
theorem base_rel {G : Gh} {w : World} {sz : Nat} {x : AV} {v : Value} {xs : List AV} {t : Tok} (h : aBase sz x = some (xs, t)) (hx : Rel G w x v) : Rel G w (.slc sz xs t) v := by
  unfold aBase at h
  split at h
  · cases h; exact nils_slc sz hx
  · split at h
    · cases h; rename_i e; subst e; exact hx
    · cases h
  · cases h
theorem slc_len {G : Gh} {w : World} {sz : Nat} {xs : List AV} {vs : List Value} (hsz : ∀ x ∈ xs, x.cells.length = sz) (hr : RelL G w (xs.flatMap AV.cells) vs) : vs.length = xs.length * sz := by
  rw [hr.length, List.length_flatMap]
  have : (xs.map fun x => x.cells.length) = List.replicate xs.length sz := List.eq_replicate_iff.2 ⟨by simp, fun b hb => by
    obtain ⟨y, hy, rfl⟩ := List.mem_map.1 hb
    exact hsz y hy⟩
  rw [this]; simp
theorem first_run {P : Program} {G : Gh} {w : World} {sz n cap : Nat} {A : Option Addr} {vs : List Value} (hl : Lies G w A vs) (hlen : vs.length = n * sz) : (Builtin.firstCells sz n (.slice A n cap)).run P w = .ok vs.toArray w := by
  cases A with
  | none =>
    have : vs = [] := by
      cases vs with
      | nil => rfl
      | cons v vs => obtain ⟨b, q, e, _⟩ := hl 0 v rfl; cases e
    subst this
    rfl
  | some ad =>
    simp only [Builtin.firstCells]
    exact lies_load hl ad rfl _ hlen

theorem inv_tok {w0 : Base} {G : Gh} {σ : St} {w w' : World} (hI : Inv w0 G σ w) {t e lim n : Nat} {c : Array Value} {T : TypeId} (ht : G.tok t = none) (hg : Grows G w (G.withTok t w.heap.size e lim n) w' (.cells c T)) (hlim : lim ≤ c.size) (hne : n ≤ e) :
    Inv w0 (G.withTok t w.heap.size e lim n) (σ.setTok t true) w' := by
  have hI' := hg.inv hI
  have ex := hg.ext
  have hnew : (G.withTok t w.heap.size e lim n).tok t = some (w.heap.size, e, lim) := by simp [Gh.withTok]
  have hlt : ∀ s m q l, σ.tok s = true → (G.withTok t w.heap.size e lim n).tok s = some (m, q, l) → m < w.heap.size := fun s m q l hs hm => by
    obtain ⟨m', e', l', _, _, _, h1, _⟩ := (hI.tok s hs).ex
    rw [ex.tok s _ h1] at hm
    cases hm
    exact hI.toklt s _ _ _ h1
  have hsome : ∀ s, (σ.setTok t true).tok s = true → s = t ∨ σ.tok s = true := fun s hs => by
    by_cases e1 : s = t
    · exact .inl e1
    · right; simpa [St.setTok, e1] using hs
  refine ⟨hI'.base, hI'.old, hI'.box, hI'.binj, fun s hs => ?_, fun s u m q l q' l' hs hu e1 e2 => ?_, fun i s m q l hi hs e1 e2 => ?_, hI'.immlt, hI'.boxlt, hI'.toklt, hI'.fresh, hI'.obj⟩
  · rcases hsome s hs with rfl | hs'
    · refine ⟨w.heap.size, e, lim, c, T, (0, 0), hnew, hI.size, hg.new, hlim, .inl rfl, fun q hq hi => ?_⟩
      rcases hi with hi | ⟨_, hi⟩
      · have := hI.immlt _ _ hi; omega
      · omega
    · exact hI'.tok s hs'
  · rcases hsome s hs with rfl | hs' <;> rcases hsome u hu with rfl | hu'
    · rfl
    · rw [hnew] at e1; cases e1
      have := hlt u _ _ _ hu' e2; omega
    · rw [hnew] at e2; cases e2
      have := hlt s _ _ _ hs' e1; omega
    · exact hI'.tinj s u m q l q' l' hs' hu' e1 e2
  · rcases hsome s hs with rfl | hs'
    · rw [hnew] at e2; cases e2
      obtain ⟨cs, hc⟩ := Option.isSome_iff_exists.1 hi
      obtain ⟨m', _, _, h1, _⟩ := (hI.box i cs hc).ex
      rw [ex.box i m' h1] at e1
      cases e1
      have := hI.boxlt i _ h1
      omega
    · exact hI'.apart i s m q l hi hs' e1 e2

theorem row_lies {G' : Gh} {w' : World} {b : Nat} {c : Array Value} {T : TypeId} {fr : Nat × Nat} {vs : List Value} {rest : Array Value} (hw : w'.heap[b]? = some (.cells c T fr)) (hc : c = vs.toArray ++ rest) (hi : ∀ k, k < vs.length → G'.imm b k) : Lies G' w' (some ⟨b, 0, none⟩) vs := fun k v hk => by
  have hlt : k < vs.length := by
    obtain ⟨h, _⟩ := List.getElem?_eq_some_iff.1 hk; exact h
  refine ⟨b, 0, rfl, .inr (by rw [Nat.zero_add]; exact hi k hlt), ?_⟩
  rw [cell_block hw, hc, Nat.zero_add, Array.getElem?_append_left (by simpa using hlt)]
  simpa using hk

theorem modify_push {α : Type} (a : Array α) (x : α) (f : α → α) : (a.push x).modify a.size f = a.push (f x) := by
  apply Array.ext
  · simp
  · intro i h1 h2
    rw [Array.getElem_modify]
    by_cases hi : a.size = i
    · subst hi; simp
    · rw [if_neg hi, Array.getElem_push, Array.getElem_push]
      simp only [Array.size_push] at h2
      rw [dif_pos (by omega), dif_pos (by omega)]

section
variable {P : Program} {w0 : Base} {E : AEnv} {σ : St} {o : Oper} {K : AV → St → Prop}

def AppFits (i : TypeInfo) (n : Nat) : Prop := n * i.bytes ≤ 140737488355328 ∧ n ≤ maxLen

def St.spend (σ : St) : Tok → St
  | .own t => σ.setTok t false
  | _ => σ
theorem spend_le (σ : St) (t : Tok) : St.Le (σ.spend t) σ := by
  cases t with
  | own t =>
    refine ⟨fun _ _ h => h, fun s h => ?_, fun _ _ h => h⟩
    by_cases e : s = t
    · simp [St.spend, St.setTok, e] at h
    · simpa [St.spend, St.setTok, e] using h
  | _ => exact .refl σ
theorem w_append {t u e : TypeId} {i : TypeInfo} {z : Value} (T : AppT P t u e i z) (s x : Operand) (ho : o.op = .call { callee := .builtin .append, args := #[s, x], argTypes := #[t, u] }) {xs ys : List AV} {tk : Tok}
    (hs : aBase i.size (aeval E s) = some (xs, tk)) (hx : aSrc i.size (aeval E x) = some ys) (hf : AppFits i (xs.length + ys.length)) (htk : (tk = .full ∧ ys ≠ []) ∨ ∃ q, tk = .own q ∧ σ.tok q = true)
    (hk : ∀ q, (σ.spend tk).tok q = false → K (.slc i.size (xs ++ ys) (.own q)) ((σ.spend tk).setTok q true)) : OpW P w0 o E σ K := .value fun G w a hI hE => by
  have hsr := base_rel hs (hE.get s (by simp [ho, Op.operands, Call.operands]))
  have hxr := hE.get x (by simp [ho, Op.operands, Call.operands])
  have he : execOp a.eval o = (Builtin.append_ #[t, u] o.type #[a.eval s, a.eval x] >>= fun v => pure (.value v)) := by simp [execOp, ho, resolve, invoke, builtin]
  rw [he]
  generalize a.eval s = vsl at *
  generalize a.eval x = v at *
  obtain ⟨hl, vs, hfc, hrel, hvl, hys⟩ := src_run (P := P) hx hxr
  cases hsr with
  | slc hn hc hm hsz hr hli htok =>
    rename_i A n cap vs0
    subst hn
    have hvl0 := slc_len (fun x hx => (hsz x hx).1) hr
    obtain ⟨h1, h2⟩ := append_run T o.type (A := A) (len := xs.length) (cap := cap) hl hfc
    have hall : ∀ y ∈ xs ++ ys, y.cells.length = i.size ∧ ∀ c ∈ y.cells, c.one = true := fun y hy => (List.mem_append.1 hy).elim (hsz y) (hys y)
    by_cases hroom : xs.length + ys.length ≤ cap
    · -- in place
      rcases htk with ⟨rfl, hne⟩ | ⟨q, rfl, hq⟩
      · exfalso
        have : cap = xs.length := htok
        have := List.length_pos_iff.2 hne
        omega
      · obtain ⟨b, off, lim, rfl, hqt, hlim⟩ := htok
        obtain ⟨m, e', lim', c, T', fr, k1, k2, k3, k4, k5, k6⟩ := (hI.tok q hq).ex
        rw [hqt] at k1
        cases k1
        obtain ⟨q', hq', hsq⟩ := fresh_tok hI
        have hmul : (xs.length + ys.length) * i.size ≤ cap * i.size := Nat.mul_le_mul_right _ hroom
        have hadd : (xs.length + ys.length) * i.size = xs.length * i.size + ys.length * i.size := Nat.add_mul ..
        obtain ⟨w', hrun, R⟩ := run_storeCells P b T' fr (off + xs.length * i.size) vs 0 c w k3 k5 (by omega) (relL_oneCell hrel (fun x hx => by
          obtain ⟨y, hy, hc⟩ := List.mem_flatMap.1 hx
          exact (hys y hy).2 x hc))
        rw [Nat.add_zero] at R
        obtain ⟨hI', ex⟩ := hI.fill (c' := setAll c (off + xs.length * i.size) vs) (e' := off + xs.length * i.size + vs.length) hq hqt k3 k6 k2 k4 k5 (setAll_size ..) (fun o ho => by
          rw [setAll_get _ _ _ _ (by omega), if_neg (by omega)]) (by omega) R hq'
        refine ⟨.slice (some ⟨b, off, none⟩) (xs.length + ys.length) cap, w', _, _, _, ?_, hk q' (by
          have : q' ≠ q := fun h => by rw [h, hqt] at hq'; cases hq'
          simpa [St.spend, St.setTok, this] using hsq), hI', ex, ?_⟩
        · rw [Sem.run_bind, h1 hroom]
          simp only [addr_add, hrun, Result.andThen_ok]
          rfl
        · refine .slc (vs := vs0 ++ vs) (by simp) hroom hm hall (by rw [List.flatMap_append]; exact (hr.append hrel).ext ex) ?_ ?_
          · intro k u hu
            by_cases hk0 : k < vs0.length
            · rw [List.getElem?_append_left hk0] at hu
              exact (hli.ext ex) k u hu
            · rw [List.getElem?_append_right (by omega)] at hu
              have hlt : k - vs0.length < vs.length := by
                obtain ⟨h, _⟩ := List.getElem?_eq_some_iff.1 hu; exact h
              refine ⟨b, off, rfl, .inr (.inr ⟨rfl, by omega, by omega⟩), ?_⟩
              rw [cell_block R.here, setAll_get _ _ _ _ (by omega), if_pos (by omega)]
              rw [show off + k - (off + xs.length * i.size) = k - vs0.length by omega]
              exact hu
          · refine ⟨b, off, lim, rfl, ?_, hlim⟩
            show (if q' = q' then _ else _) = _
            rw [if_pos rfl, hadd, hvl, Nat.add_assoc]
    · -- a new row
      have hpos : 0 < ys.length := by omega
      let w1 : World := { w with drawn := w.drawn + 1 }
      have hA : Alike0 w w1 := ⟨rfl, rfl, rfl, rfl⟩
      obtain ⟨_, us, hfc', hrel', hul, _⟩ := src_run (P := P) hx (hxr.ext hA.ext)
      obtain ⟨nc, hnc, hnl, hrun⟩ := h2 (by omega) hf.1 (by have := hf.2; simp only [maxLen] at this; omega) vs0.toArray us.toArray (first_run (hli.ext hA.ext) hvl0) hfc'
      obtain ⟨q', hq', hsq⟩ := fresh_tok hI
      have hI1 : Inv w0 G (σ.spend tk) w1 := (hA.inv hI).drop (spend_le σ tk)
      have hcs : (vs0.toArray ++ us.toArray ++ Builtin.zeroCells z.cells (nc - (xs.length + ys.length))).size = nc * i.size := by
        simp [Builtin.zeroCells, T.hs, hvl0, hul]
        rw [← Nat.add_mul, ← Nat.add_mul]
        congr 1
        omega
      have hlen : (vs0 ++ us).length = (xs.length + ys.length) * i.size := by rw [List.length_append, hvl0, hul, Nat.add_mul]
      have hg := grows_tok G w1 (.cells (vs0.toArray ++ us.toArray ++ Builtin.zeroCells z.cells (nc - (xs.length + ys.length))) e) q' ((xs.length + ys.length) * i.size) (nc * i.size) (vs0 ++ us).length hq'
      have ex := hA.ext.trans hg.ext
      have hI' := inv_tok hI1 hq' hg (by rw [hcs]; exact Nat.le_refl _) (by rw [hlen]; exact Nat.le_refl _)
      refine ⟨_, _, _, _, _, by rw [Sem.run_bind, hrun]; rfl, hk q' (by
        have := (spend_le σ tk).tok q'
        cases h : (σ.spend tk).tok q' with
        | false => rfl
        | true => rw [this h] at hsq; cases hsq), hI', ex, ?_⟩
      refine .slc (vs := vs0 ++ us) (by simp) hnc (by simp only [maxLen]; omega) hall ?_ ?_ ⟨w1.heap.size, 0, nc * i.size, rfl, ?_, by omega⟩
      · rw [List.flatMap_append]; exact ((hr.ext hA.ext).append hrel').ext hg.ext
      · exact row_lies (rest := Builtin.zeroCells z.cells (nc - (xs.length + ys.length))) hg.new (by simp) (fun k hk => .inr ⟨rfl, hk⟩)
      · simp [Gh.withTok]

def aStrBytes (P : Program) (s d : TypeId) (x : AV) : Option AV :=
  match P.underlying s, P.underlying d, x with
  | some .string, some (.slice e), .str l => match P.underlying e with
    | some (.int .u8) => if l.length ≤ 140737488355328 then some (.slc 1 (aBytes l) .no) else none
    | _ => none
  | _, _, _ => none
theorem ok_strBytes (s d : TypeId) (x : Operand) (ho : o.op = .convert s d x) {r : AV} (h : aStrBytes P s d (aeval E x) = some r) : OpOk P o E r := ⟨fun w0 G σ w a hI hE => by
  have hx := hE.get x (by simp [ho, Op.operands, Call.operands])
  have he : execOp a.eval o = (convert s d (a.eval x) >>= fun v => pure (.value v)) := by simp only [execOp, ho]
  rw [he]
  unfold aStrBytes at h
  split at h
  · rename_i e l hs hd hX
    rw [hX] at hx
    split at h
    · rename_i hu8
      split at h
      · rename_i hlen
        cases h
        generalize a.eval x = v at *
        cases hx
        let w1 : World := { w with drawn := w.drawn + 1 }
        have hA : Alike0 w w1 := ⟨rfl, rfl, rfl, rfl⟩
        let bs : List Value := l.map fun b => .int .u8 b.toNat
        let cap := (Question.appendCap l.length 0 e).cut (w.tape w.drawn (.appendCap l.length 0 e))
        have hcap : l.length ≤ cap ∧ cap < 9223372036854775808 := by
          simp only [cap, Question.cut]
          have : (2 : Nat) ^ 63 = 9223372036854775808 := by decide
          have := Nat.mod_lt (w.tape w.drawn (.appendCap l.length 0 e)) (show 0 < 2 ^ 63 - l.length by omega)
          omega
        let c : Array Value := bs.toArray ++ Array.replicate (cap - l.length) (.int .u8 0)
        have hg := grows_rest G w1 (.cells c e (c.size, c.size + 1)) bs.length
        have hrel : RelL G w (aBytes l) bs := aBytes_rel G w l
        have ex := hA.ext.trans hg.ext
        refine ⟨.slice (some ⟨w.heap.size, 0, none⟩) l.length cap, _, _, ?_, hg.inv (hA.inv hI), ex, ?_⟩
        · have hl : (⟨l.toArray⟩ : ByteArray).size = l.length := by simp [ByteArray.size]
          simp only [convert, Sem.run_bind, run_underlying hs, run_underlying hd, run_underlying hu8, Result.andThen_ok, Conv.stringToBytes, run_choose, Question.forced, Bool.false_eq_true, if_false, hl, newRow, run_newObj, markStringish, run_shape, Sem.run_pure]
          simp [World.shape?, World.freeze, w1, c, bs, cap]
          rw [modify_push]
          simp
        · refine .slc (vs := bs) (by simp [aBytes]) hcap.1 (by simp only [maxLen]; omega) (aBytes_one l) (by rw [aBytes_cells]; exact hrel.ext ex) ?_ trivial
          exact row_lies (rest := Array.replicate (cap - l.length) (.int .u8 0)) hg.new rfl (fun k hk => .inr ⟨rfl, hk⟩)
      · cases h
    · cases h
  · cases h⟩
end
end Go.Al
end
section
set_option linter.unusedVariables false
set_option linter.unusedSimpArgs false
namespace Go.Al
open Go.RowKit

def upd (E : AEnv) (d : Option Tmp) (x : AV) : AEnv :=
  match d with
  | some t => fun s => if s = t then x else E s
  | none => E
theorem put_size (a : Act) (d : Option Tmp) (v : Value) : (a.put d v).tmps.size = a.tmps.size := by cases d <;> simp [Act.put]
theorem put_defers (a : Act) (d : Option Tmp) (v : Value) : (a.put d v).defers = a.defers := by cases d <;> rfl
theorem put_rel {G : Gh} {w : World} {E : AEnv} {a : Act} {d : Option Tmp} {x : AV} {v : Value} (hE : RelE G w E a) (hx : Rel G w x v) (hd : ∀ t, d = some t → t < a.tmps.size) : RelE G w (upd E d x) (a.put d v) := ⟨fun s => by
  cases d with
  | none => exact hE.get s
  | some t =>
    simp only [upd, Act.put]
    split
    · rename_i e; subst e
      have := hd s rfl
      simpa [this] using hx
    · rename_i e
      have := hE.get s
      simpa [Array.getElem?_setIfInBounds_ne (Ne.symm e)] using this⟩
theorem relE_O {G : Gh} {w : World} {E : AEnv} {a : Act} (h : RelE G w E a) (o : Oper) : RelO G w E a o := ⟨fun x _ => aeval_rel h x⟩

def aWant (ops : Array Oper) (E : AEnv) (o : Oper) : Option Bool :=
  match o.guard with
  | none => some true
  | some (j, want) => match (ops[j]?).bind (·.dst) with
    | some d => match E d with
      | .bool b => some (b == want)
      | .tup [] => some false
      | _ => none
    | none => none
theorem want_spec {ops : Array Oper} {G : Gh} {w : World} {E : AEnv} {a : Act} {o : Oper} {b : Bool} (hE : RelE G w E a) (h : aWant ops E o = some b) : Region.wanted o (yielded ops a.tmps) = b := by
  unfold aWant at h
  unfold Region.wanted
  split at h
  · rename_i hg; cases h; rw [hg]
  · rename_i j want hg
    rw [hg]
    split at h
    · rename_i d hd
      split at h
      · rename_i c hc
        cases h
        have hr := hE.get d
        rw [hc] at hr
        simp only [yielded, hd, Option.bind_some]
        cases hv : a.tmps[d]? with
        | none =>
          have : a.tmps.getD d undef = undef := by simp [hv]
          rw [this] at hr
          unfold undef at hr
          cases hr
        | some v =>
          have : a.tmps.getD d undef = v := by simp [hv]
          rw [this] at hr
          cases hr
          cases want <;> cases c <;> rfl
      · rename_i hc
        cases h
        have hr := hE.get d
        rw [hc] at hr
        simp only [yielded, hd, Option.bind_some]
        cases hv : a.tmps[d]? with
        | none => cases want <;> rfl
        | some v =>
          have : a.tmps.getD d undef = v := by simp [hv]
          rw [this] at hr
          cases hr with
          | tup hr =>
            cases hr
            cases want <;> rfl
      · cases h
    · cases h

def OpPure (P : Program) (w0 : Base) (o : Oper) (E : AEnv) (r : AV) : Prop := ∀ σ, OpW P w0 o E σ (fun r' σ' => r' = r ∧ σ' = σ)
def OpQuiet (P : Program) (w0 : Base) (o : Oper) (E : AEnv) (σ : St) (r : AV) : Prop := OpW P w0 o E σ (fun r' σ' => r' = r ∧ σ' = σ)
theorem OpOk.pure {P : Program} {w0 : Base} {o : Oper} {E : AEnv} {r : AV} (h : OpOk P o E r) : OpPure P w0 o E r := fun σ => h.w σ
theorem OpW.congr {P : Program} {w0 : Base} {o : Oper} {E E' : AEnv} {σ : St} {K : AV → St → Prop} (h : OpW P w0 o E σ K) (e : ∀ x ∈ o.op.operands, aeval E' x = aeval E x) : OpW P w0 o E' σ K :=
  ⟨fun G w a hI hE => h.go G w a hI ⟨fun x hx => by rw [← e x hx]; exact hE.get x hx⟩⟩

structure Kd where
  k : Nat → Nat
  b : Nat
  cs : Option (List AV)
instance : CoeFun Kd (fun _ => Nat → Nat) := ⟨Kd.k⟩
def Kd.held (kind : Kd) (σ : St) : Prop := ∀ cs, kind.cs = some cs → σ.box kind.b = some cs
inductive StepD (P : Program) (w0 : Base) (o : Oper) (E : AEnv) (σ : St) (kind : Nat) (H : St → Prop) (K : AV → St → Prop) : Prop where
  | pure (r : AV) (h : OpPure P w0 o E r) (k : K r σ)
  | quiet (r : AV) (hl : kind = 1 ∨ kind = 2) (h : OpQuiet P w0 o E σ r) (k : K r σ)
  | loud (hl : kind = 2) (h : OpW P w0 o E σ K)
  | held (r : AV) (hl : kind = 3) (hH : H σ) (h : ∀ s, H s → OpW P w0 o E s (fun r' s' => r' = r ∧ s' = s)) (k : K r σ)
  | keeps (hl : kind = 4) (h : OpW P w0 o E σ (fun r s => K r s ∧ (H σ → H s)))
theorem StepD.w {P : Program} {w0 : Base} {o : Oper} {E : AEnv} {σ : St} {l : Nat} {H : St → Prop} {K : AV → St → Prop} (h : StepD P w0 o E σ l H K) : OpW P w0 o E σ K := by
  cases h with
  | pure r h k => exact (h σ).mono fun _ _ ⟨e1, e2⟩ => by rw [e1, e2]; exact k
  | quiet r hl h k => exact OpW.mono h fun _ _ ⟨e1, e2⟩ => by rw [e1, e2]; exact k
  | loud hl h => exact h
  | held r hl hH h k => exact OpW.mono (h σ hH) fun _ _ ⟨e1, e2⟩ => by rw [e1, e2]; exact k
  | keeps hl h => exact h.mono fun _ _ h => h.1
theorem StepD.mono {P : Program} {w0 : Base} {o : Oper} {E : AEnv} {σ : St} {l : Nat} {H : St → Prop} {K K' : AV → St → Prop} (h : StepD P w0 o E σ l H K) (hk : ∀ r s, K r s → K' r s) : StepD P w0 o E σ l H K' := by
  cases h with
  | pure r h k => exact .pure r h (hk _ _ k)
  | quiet r hl h k => exact .quiet r hl h (hk _ _ k)
  | loud hl h => exact .loud hl (h.mono hk)
  | held r hl hH h k => exact .held r hl hH h (hk _ _ k)
  | keeps hl h => exact .keeps hl (h.mono fun _ _ h => ⟨hk _ _ h.1, h.2⟩)

def Runs (P : Program) (w0 : Base) (ops : Array Oper) (kind : Kd) (Q : AEnv → St → Prop) : List Nat → AEnv → St → Prop
  | [], E, σ => Q E σ
  | i :: rest, E, σ =>
    match ops[i]? with
    | none => Runs P w0 ops kind Q rest E σ
    | some o =>
      match aWant ops E o with
      | some true => StepD P w0 o E σ (kind i) kind.held (fun r σ' => Runs P w0 ops kind Q rest (upd E o.dst r) σ')
      | some false => Runs P w0 ops kind Q rest (upd E o.dst (.tup [])) σ
      | none => False

def dstsOk (n : Nat) (ops : Array Oper) : Bool := ops.toList.all fun o => match o.dst with | some t => decide (t < n) | none => true
theorem dstsOk_get {n : Nat} {ops : Array Oper} (h : dstsOk n ops = true) {i : Nat} {o : Oper} (hi : ops[i]? = some o) {t : Tmp} (ht : o.dst = some t) : t < n := by
  unfold dstsOk at h
  rw [List.all_eq_true] at h
  have := h o (by rw [Array.mem_toList_iff]; exact Array.mem_of_getElem? hi)
  rw [ht] at this
  simpa using this

section
variable {P : Program} {w0 : Base} {ops : Array Oper} {kind : Kd} {Q : AEnv → St → Prop}

theorem step_run {n : Nat} (hd : dstsOk n ops = true) {i : Nat} {rest : List Nat} {E : AEnv} {σ : St} (h : Runs P w0 ops kind Q (i :: rest) E σ) {G : Gh} {w : World} {a : Act} (hI : Inv w0 G σ w) (hE : RelE G w E a) (hn : a.tmps.size = n) {Qx : Exit → Act → World → Prop} {K : Act → World → Prop}
    (hk : ∀ E' σ' G' w' a', Runs P w0 ops kind Q rest E' σ' → Inv w0 G' σ' w' → RelE G' w' E' a' → a'.tmps.size = n → a'.defers = a.defers → Ext G w G' w' → K a' w')  (ro : Ro) : wpOpIn (wideAt ro) 0 P ops Qx i K a w := by
  unfold Runs at h
  unfold wpOpIn
  split at h
  · rename_i ho
    rw [ho]
    exact hk E σ G w a h hI hE hn rfl (.refl G w)
  · rename_i o ho
    simp only [ho]
    split at h
    · rename_i hw
      rw [if_pos (want_spec hE hw)]
      refine h.w.go G w a hI (relE_O hE o) _ _ (fun v w' G' r σ' hr hI' e hrel => ?_) ro
      exact hk _ _ G' w' _ hr hI' (put_rel (hE.ext e) hrel fun t ht => by rw [hn]; exact dstsOk_get hd ho ht) (by rw [put_size]; exact hn) (put_defers ..) e
    · rename_i hw
      rw [if_neg (by rw [want_spec hE hw]; simp)]
      exact ⟨fun _ _ => trivial, hk _ _ G w _ h hI (put_rel hE (.tup .nil) fun t ht => by rw [hn]; exact dstsOk_get hd ho ht) (by rw [put_size]; exact hn) (put_defers ..) (.refl G w)⟩
    · exact h.elim

theorem runs_sound {n : Nat} (hd : dstsOk n ops = true) : ∀ (l : List Nat) (E : AEnv) (σ : St), Runs P w0 ops kind Q l E σ → ∀ {G : Gh} {w : World} {a : Act}, Inv w0 G σ w → RelE G w E a → a.tmps.size = n → ∀ {Qx : Exit → Act → World → Prop},
    (∀ E' σ' G' w' a', Q E' σ' → Inv w0 G' σ' w' → RelE G' w' E' a' → a'.tmps.size = n → a'.defers = a.defers → Ext G w G' w' → Qx .normal a' w') → ∀ ro, wpOpsIn (wideAt ro) 0 P ops Qx l a w
  | [], E, σ, h, G, w, a, hI, hE, hn, Qx, hk, ro => hk E σ G w a h hI hE hn rfl (.refl G w)
  | i :: l, E, σ, h, G, w, a, hI, hE, hn, Qx, hk, ro => by
    rw [wpOpsIn_cons]
    refine step_run hd h hI hE hn (fun E' σ' G' w' a' hr hI' hE' hn' hdf e => ?_) ro
    exact runs_sound hd l E' σ' hr hI' hE' hn' (fun E2 σ2 G2 w2 a2 q hI2 hE2 hn2 hd2 e2 => hk E2 σ2 G2 w2 a2 q hI2 hE2 hn2 (hd2.trans hdf) (e.trans e2)) ro

theorem upd_comm (E : AEnv) {d e : Option Tmp} (x y : AV) (h : ∀ t, d = some t → e ≠ some t) : upd (upd E d x) e y = upd (upd E e y) d x := by
  cases d with
  | none => rfl
  | some t =>
    cases e with
    | none => rfl
    | some s =>
      have hne : t ≠ s := fun q => h t rfl (q ▸ rfl)
      funext q
      simp only [upd]
      by_cases h1 : q = s
      · subst h1; rw [if_pos rfl, if_neg (Ne.symm hne), if_pos rfl]
      · rw [if_neg h1, if_neg h1]
theorem aeval_upd {E : AEnv} {d : Option Tmp} {x : AV} {y : Operand} (h : ∀ t, d = some t → y ≠ .tmp t) : aeval (upd E d x) y = aeval E y := by
  cases d with
  | none => rfl
  | some t =>
    cases y with
    | tmp s =>
      have : s ≠ t := fun q => h t rfl (q ▸ rfl)
      simp [aeval, upd, this]
    | _ => rfl
theorem looks_operand {o : Oper} {d : Tmp} (h : d ∉ o.looksAt ops) : ∀ x ∈ o.op.operands, x ≠ .tmp d := fun x hx e => by
  subst e
  apply h
  unfold Oper.looksAt
  refine List.mem_append.2 (.inl (List.mem_filterMap.2 ⟨.tmp d, by simpa using hx, rfl⟩))
theorem want_upd {E : AEnv} {o : Oper} {d : Option Tmp} {x : AV} (h : ∀ t, d = some t → t ∉ o.looksAt ops) : aWant ops (upd E d x) o = aWant ops E o := by
  unfold aWant
  split
  · rfl
  · rename_i j want hg
    split
    · rename_i e he
      have : upd E d x e = E e := by
        cases d with
        | none => rfl
        | some t =>
          have hne : e ≠ t := fun q => h t rfl (by
            unfold Oper.looksAt
            rw [hg]
            refine List.mem_append.2 (.inr ?_)
            simp [he, q])
          simp [upd, hne]
      rw [this]
    · rfl

def swapB (ops : Array Oper) (kind : Nat → Nat) (j i : Nat) : Bool :=
  match ops[j]?, ops[i]? with
  | some oj, some oi => oj.apart ops oi && (kind j == 0 || (kind j == 1 && decide (kind i < 2)) || (kind j == 3 && decide (kind i ≠ 2)))
  | _, _ => false
theorem runs_swap {j i : Nat} (hs : swapB ops kind.k j i = true) {rest : List Nat} {E : AEnv} {σ : St} (h : Runs P w0 ops kind Q (j :: i :: rest) E σ) : Runs P w0 ops kind Q (i :: j :: rest) E σ := by
  cases hj : ops[j]? with
  | none =>
    cases hi : ops[i]? with
    | none => simp only [Runs, hj, hi] at h ⊢; exact h
    | some oi => simp only [Runs, hj, hi] at h ⊢; exact h
  | some oj =>
    cases hi : ops[i]? with
    | none => simp only [Runs, hj, hi] at h ⊢; exact h
    | some oi =>
      have hk : oj.apart ops oi = true ∧ (kind j = 0 ∨ (kind j = 1 ∧ kind i < 2) ∨ (kind j = 3 ∧ kind i ≠ 2)) := by
        simp only [swapB, hj, hi, Bool.and_eq_true, Bool.or_eq_true, beq_iff_eq, decide_eq_true_eq] at hs
        refine ⟨hs.1, ?_⟩
        rcases hs.2 with (h | h) | h
        · exact .inl h
        · exact .inr (.inl h)
        · exact .inr (.inr h)
      obtain ⟨hap, hkind⟩ := hk
      obtain ⟨a1, a2, a3⟩ := Oper.apart_spec hap
      simp only [Runs, hj, hi] at h ⊢
      have wi : ∀ E x, aWant ops (upd E oj.dst x) oi = aWant ops E oi := fun E x => want_upd a1
      have wj : ∀ E x, aWant ops (upd E oi.dst x) oj = aWant ops E oj := fun E x => want_upd a3
      have ei : ∀ E x, ∀ y ∈ oi.op.operands, aeval E y = aeval (upd E oj.dst x) y := fun E x y hy => (aeval_upd fun t ht => looks_operand (a1 t ht) y hy).symm
      have ej : ∀ E x, ∀ y ∈ oj.op.operands, aeval (upd E oi.dst x) y = aeval E y := fun E x y hy => aeval_upd fun t ht => looks_operand (a3 t ht) y hy
      have hc : ∀ x y, upd (upd E oj.dst x) oi.dst y = upd (upd E oi.dst y) oj.dst x := fun x y => upd_comm E x y a2
      simp only [wi] at h
      simp only [wj]
      cases hwj : aWant ops E oj with
      | none => rw [hwj] at h; exact h.elim
      | some bj =>
        rw [hwj] at h
        cases hwi : aWant ops E oi with
        | none =>
          exfalso
          rw [hwi] at h
          cases bj with
          | false => exact h
          | true =>
            cases h with
            | pure r h k => exact k
            | quiet r hl h k => exact k
            | loud hl h => omega
            | held r hl hH h k => exact k
            | keeps hl h => omega
        | some bi =>
          rw [hwi] at h
          cases bj with
          | false =>
            cases bi with
            | false => simp only [hc] at h; exact h
            | true =>
              simp only [hc] at h
              cases h with
              | pure r h k => exact .pure r (fun σ => (h σ).congr (ei E _)) k
              | quiet r hl h k => exact .quiet r hl (OpW.congr h (ei E _)) k
              | loud hl h => exact .loud hl (h.congr (ei E _))
              | held r hl hH h k => exact .held r hl hH (fun s hs => (h s hs).congr (ei E _)) k
              | keeps hl h => exact .keeps hl (h.congr (ei E _))
          | true =>
            cases bi with
            | false =>
              simp only [hc] at h
              cases h with
              | pure r h k => exact .pure r (fun σ => (h σ).congr (ej E _)) k
              | quiet r hl h k => exact .quiet r hl (OpW.congr h (ej E _)) k
              | loud hl h => omega
              | held r hl hH h k => exact .held r hl hH (fun s hs => (h s hs).congr (ej E _)) k
              | keeps hl h => omega
            | true =>
              simp only [hc] at h
              cases h with
              | pure r h k =>
                cases k with
                | pure r' h' k' => exact .pure r' (fun σ => (h' σ).congr (ei E _)) (.pure r (fun σ => (h σ).congr (ej E _)) k')
                | quiet r' hl h' k' => exact .quiet r' hl (OpW.congr h' (ei E _)) (.pure r (fun σ => (h σ).congr (ej E _)) k')
                | loud hl h' => exact .loud hl ((h'.congr (ei E _)).mono fun r' σ' k' => .pure r (fun σ => (h σ).congr (ej E _)) k')
                | held r' hl hH h' k' => exact .held r' hl hH (fun s hs => (h' s hs).congr (ei E _)) (.pure r (fun σ => (h σ).congr (ej E _)) k')
                | keeps hl h' => exact .keeps hl ((h'.congr (ei E _)).mono fun r' σ' k' => ⟨.pure r (fun σ => (h σ).congr (ej E _)) k'.1, k'.2⟩)
              | quiet r hl0 h k =>
                cases k with
                | pure r' h' k' => exact .pure r' (fun σ => (h' σ).congr (ei E _)) (.quiet r hl0 (OpW.congr h (ej E _)) k')
                | quiet r' hl h' k' => exact .quiet r' hl (OpW.congr h' (ei E _)) (.quiet r hl0 (OpW.congr h (ej E _)) k')
                | loud hl h => omega
                | held r' hl hH h' k' => omega
                | keeps hl h' => omega
              | loud hl h => omega
              | held r hl0 hH0 h k =>
                cases k with
                | pure r' h' k' => exact .pure r' (fun σ => (h' σ).congr (ei E _)) (.held r hl0 hH0 (fun s hs => (h s hs).congr (ej E _)) k')
                | quiet r' hl h' k' => exact .quiet r' hl (OpW.congr h' (ei E _)) (.held r hl0 hH0 (fun s hs => (h s hs).congr (ej E _)) k')
                | loud hl h => omega
                | held r' hl hH h' k' => exact .held r' hl hH (fun s hs => (h' s hs).congr (ei E _)) (.held r hl0 hH0 (fun s hs => (h s hs).congr (ej E _)) k')
                | keeps hl h' => exact .keeps hl ((h'.congr (ei E _)).mono fun r' σ' k' => ⟨.held r hl0 (k'.2 hH0) (fun s hs => (h s hs).congr (ej E _)) k'.1, k'.2⟩)
              | keeps hl h => omega
end
end Go.Al
end
section
set_option linter.unusedVariables false
set_option linter.unusedSimpArgs false
namespace Go.Al
open Go.RowKit

inductive Waits (ops : Array Oper) : Nat → Nat → Prop
  | edge {i j : Nat} {o : Oper} {e : Edge} (hi : ops[i]? = some o) (he : e ∈ o.after) (hb : Region.binds .any e = true) (hj : e.on = j) : Waits ops i j
  | trans {i k j : Nat} (h : Waits ops i k) (h' : Waits ops k j) : Waits ops i j
def mask1 (acc : List Nat) : List Edge → Nat
  | [] => 0
  | e :: es => (if Region.binds .any e then 2 ^ e.on ||| acc.getD e.on 0 else 0) ||| mask1 acc es
def masks : List Oper → List Nat → List Nat
  | [], acc => acc
  | o :: rest, acc => masks rest (acc ++ [mask1 acc o.after.toList])
theorem mask1_spec {ops : Array Oper} {acc : List Nat} (hacc : ∀ i j, (acc.getD i 0).testBit j = true → Waits ops i j) {k : Nat} {o : Oper} (hk : ops[k]? = some o) : ∀ es : List Edge, (∀ e ∈ es, e ∈ o.after) → ∀ j, (mask1 acc es).testBit j = true → Waits ops k j
  | [], _, j, h => by simp [mask1] at h
  | e :: es, he, j, h => by
    rw [mask1, Nat.testBit_or, Bool.or_eq_true] at h
    rcases h with h | h
    · split at h
      · rename_i hb
        have hw := Waits.edge hk (he e (by simp)) hb rfl
        rw [Nat.testBit_or, Bool.or_eq_true] at h
        rcases h with h | h
        · rw [Nat.testBit_two_pow] at h
          have : e.on = j := by simpa using h
          rw [← this]; exact hw
        · exact hw.trans (hacc _ _ h)
      · simp at h
    · exact mask1_spec hacc hk es (fun x hx => he x (by simp [hx])) j h
theorem masks_spec {ops : Array Oper} : ∀ (l pre : List Oper) (acc : List Nat), ops.toList = pre ++ l → acc.length = pre.length → (∀ i j, (acc.getD i 0).testBit j = true → Waits ops i j) → ∀ i j, ((masks l acc).getD i 0).testBit j = true → Waits ops i j
  | [], _, acc, _, _, h => h
  | o :: l, pre, acc, he, hl, h => by
    refine masks_spec l (pre ++ [o]) _ (by rw [he]; simp) (by simp [hl]) ?_
    intro i j hj
    have hk : ops[pre.length]? = some o := by
      rw [← Array.getElem?_toList, he]; simp
    by_cases hi : i < acc.length
    · rw [List.getD_eq_getElem?_getD, List.getElem?_append_left hi, ← List.getD_eq_getElem?_getD] at hj
      exact h i j hj
    · by_cases hi' : i = acc.length
      · subst hi'
        rw [List.getD_eq_getElem?_getD, List.getElem?_append_right (Nat.le_refl _)] at hj
        simp only [Nat.sub_self, List.getElem?_cons_zero, Option.getD_some] at hj
        rw [hl]
        exact mask1_spec h hk _ (fun e he => by simpa using he) j hj
      · rw [List.getD_eq_getElem?_getD, List.getElem?_eq_none (by simp; omega)] at hj
        simp at hj
def pairsOk (ops : Array Oper) (kind : Nat → Nat) (ms : List Nat) : List Nat → Bool
  | [] => true
  | j :: rest => rest.all (fun i => (ms.getD i 0).testBit j || swapB ops kind j i) && pairsOk ops kind ms rest
def linOk (ops : Array Oper) : List Nat → List Nat → Bool
  | _, [] => true
  | seen, i :: rest => ((ops[i]?).map fun o => o.after.toList.all fun e => !Region.binds .any e || seen.contains e.on).getD false && linOk ops (i :: seen) rest
def orderOk (ops : Array Oper) (kind : Nat → Nat) (l : List Nat) : Bool :=
  (l.length == ops.size) && (List.range ops.size).all (fun i => l.contains i) && l.all (fun i => decide (i < ops.size)) && decide l.Nodup && linOk ops [] l && pairsOk ops kind (masks ops.toList []) l

section
variable {P : Program} {w0 : Base} {ops : Array Oper} {kind : Nat → Nat} {kd : Kd} {Q : AEnv → St → Prop}

theorem pairs_pw {ms : List Nat} : ∀ {l : List Nat}, pairsOk ops kind ms l = true → l.Pairwise fun j i => (ms.getD i 0).testBit j = true ∨ swapB ops kind j i = true
  | [], _ => .nil
  | j :: l, h => by
    simp only [pairsOk, Bool.and_eq_true, List.all_eq_true, Bool.or_eq_true] at h
    exact .cons h.1 (pairs_pw h.2)
def Direct (ops : Array Oper) (i j : Nat) : Prop := ∃ o e, ops[i]? = some o ∧ e ∈ o.after ∧ Region.binds .any e = true ∧ e.on = j
theorem lin_spec : ∀ {l seen : List Nat}, linOk ops seen l = true → ∀ {pre : List Nat} {i : Nat} {post : List Nat}, l = pre ++ i :: post → ∀ j, Direct ops i j → j ∈ seen ∨ j ∈ pre
  | [], seen, h, pre, i, post, e, j, hd => by simp at e
  | x :: l, seen, h, pre, i, post, e, j, hd => by
    simp only [linOk, Bool.and_eq_true] at h
    cases pre with
    | nil =>
      simp only [List.nil_append, List.cons.injEq] at e
      obtain ⟨rfl, rfl⟩ := e
      obtain ⟨o, ed, ho, he, hb, rfl⟩ := hd
      have h1 := h.1
      rw [ho] at h1
      simp only [Option.map_some, Option.getD_some, List.all_eq_true] at h1
      have := h1 ed (by simpa using he)
      rw [hb] at this
      exact .inl (by simpa using this)
    | cons y pre =>
      simp only [List.cons_append, List.cons.injEq] at e
      obtain ⟨rfl, rfl⟩ := e
      rcases lin_spec h.2 rfl j hd with h | h
      · rcases List.mem_cons.1 h with rfl | h
        · exact .inr (by simp)
        · exact .inl h
      · exact .inr (by simp [h])
theorem ready_mem {listed : Array Bool} {i : Nat} : i ∈ Region.ready .any ops listed ↔ i < ops.size ∧ listed.getD i true = false ∧ ∀ j, Direct ops i j → listed.getD j false = true := by
  unfold Region.ready
  simp only [List.mem_filter, List.mem_range, Bool.and_eq_true, Bool.not_eq_true']
  constructor
  · rintro ⟨h1, h2, h3⟩
    refine ⟨h1, h2, ?_⟩
    rintro j ⟨o, e, ho, he, hb, rfl⟩
    rw [ho] at h3
    simp only [Option.map_some, Option.getD_some, Array.all_eq_true] at h3
    obtain ⟨q, hq, rfl⟩ := Array.getElem_of_mem he
    have := h3 q hq
    rw [hb] at this
    simpa using this
  · rintro ⟨h1, h2, h3⟩
    refine ⟨h1, h2, ?_⟩
    rw [Array.getElem?_eq_getElem h1]
    simp only [Option.map_some, Option.getD_some, Array.all_eq_true]
    intro q hq
    cases hb : Region.binds .any (ops[i].after[q]) with
    | false => simp
    | true =>
      have := h3 _ ⟨ops[i], ops[i].after[q], Array.getElem?_eq_getElem h1, Array.getElem_mem hq, hb, rfl⟩
      simp only [Bool.not_true, Bool.false_or]
      exact this

structure Left (ops : Array Oper) (kind : Nat → Nat) (listed : Array Bool) (r : List Nat) : Prop where
  size : listed.size = ops.size
  lt : ∀ i ∈ r, i < ops.size
  unl : ∀ i, i < ops.size → (listed.getD i true = false ↔ i ∈ r)
  nodup : r.Nodup
  pw : r.Pairwise fun j i => Waits ops i j ∨ swapB ops kind j i = true
  lin : ∀ pre i post, r = pre ++ i :: post → ∀ j, Direct ops i j → listed.getD j false = true ∨ j ∈ pre
  closed : ∀ i, listed.getD i false = true → ∀ j, Direct ops i j → listed.getD j false = true
theorem getD_ft {listed : Array Bool} {i : Nat} (h : i < listed.size) : listed.getD i true = listed.getD i false := by
  simp [Array.getD, h]
theorem Left.waits {listed : Array Bool} {r : List Nat} (h : Left ops kind listed r) {i j : Nat} (hw : Waits ops i j) : (listed.getD i false = true ∨ ∀ j, Direct ops i j → listed.getD j false = true) → listed.getD j false = true := by
  induction hw with
  | edge hi he hb hj =>
    rintro (h1 | h1)
    · exact h.closed _ h1 _ ⟨_, _, hi, he, hb, hj⟩
    · exact h1 _ ⟨_, _, hi, he, hb, hj⟩
  | trans _ _ ih1 ih2 => exact fun h1 => ih2 (.inl (ih1 h1))
theorem runs_first {listed : Array Bool} {r : List Nat} (h : Left ops kd.k listed r) {i : Nat} (hi : i ∈ Region.ready .any ops listed) {E : AEnv} {σ : St} (hr : Runs P w0 ops kd Q r E σ) :
    ∃ pre post, r = pre ++ i :: post ∧ Runs P w0 ops kd Q (i :: (pre ++ post)) E σ := by
  obtain ⟨hlt, hun, hpre⟩ := ready_mem.1 hi
  have hmem := (h.unl i hlt).1 hun
  obtain ⟨pre, post, rfl⟩ := List.append_of_mem hmem
  refine ⟨pre, post, rfl, ?_⟩
  have hsw : ∀ j ∈ pre, swapB ops kd.k j i = true := fun j hj => by
    have hp := (List.pairwise_append.1 h.pw).2.2 j hj i (by simp)
    rcases hp with hp | hp
    · exfalso
      have h1 := h.waits hp (.inr hpre)
      have hjlt := h.lt j (by simp [hj])
      have h2 := (h.unl j hjlt).2 (by simp [hj])
      rw [getD_ft (by rw [h.size]; exact hjlt), h1] at h2
      cases h2
    · exact hp
  clear h hmem hun hpre hlt hi
  induction pre generalizing E σ with
  | nil => exact hr
  | cons j pre ih =>
    refine runs_swap (hsw j (by simp)) ?_
    have : ∀ (l l' : List Nat), (∀ E σ, Runs P w0 ops kd Q l E σ → Runs P w0 ops kd Q l' E σ) → ∀ E σ, Runs P w0 ops kd Q (j :: l) E σ → Runs P w0 ops kd Q (j :: l') E σ := by
      intro l l' hl E σ h
      unfold Runs at h ⊢
      split
      · rename_i hn
        simp only [hn] at h
        exact hl _ _ h
      · rename_i o ho
        simp only [ho] at h
        split
        · rename_i hw
          rw [hw] at h
          exact h.mono fun r s h => hl _ _ h
        · rename_i hw
          rw [hw] at h
          exact hl _ _ h
        · rename_i hw
          rw [hw] at h
          exact h
    exact this _ _ (fun E σ h => ih h (fun j hj => hsw j (by simp [hj]))) E σ hr
theorem Left.step {listed : Array Bool} {pre post : List Nat} {i : Nat} (h : Left ops kind listed (pre ++ i :: post)) (hi : i ∈ Region.ready .any ops listed) : Left ops kind (listed.setIfInBounds i true) (pre ++ post) := by
  obtain ⟨hlt, hun, hpre⟩ := ready_mem.1 hi
  have hset : ∀ j b, (listed.setIfInBounds i true).getD j b = if j = i then true else listed.getD j b := fun j b => by
    by_cases e : j = i
    · subst e; simp [Array.getD, h.size, hlt]
    · rw [if_neg e]
      by_cases hj : j < listed.size
      · simp [Array.getD, hj, Array.getElem_setIfInBounds, Ne.symm e]
      · simp [Array.getD, hj]
  have hsub : (pre ++ post).Sublist (pre ++ i :: post) := by simp
  have hnot : i ∉ pre ++ post := by
    have := h.nodup
    rw [List.nodup_append] at this
    obtain ⟨_, h2, h3⟩ := this
    rw [List.nodup_cons] at h2
    simp only [List.mem_append, not_or]
    exact ⟨fun hm => h3 i hm i (by simp) rfl, h2.1⟩
  refine ⟨by simp [h.size], fun j hj => h.lt j (hsub.subset hj), fun j hj => ?_, h.nodup.sublist hsub, h.pw.sublist hsub, fun p k q e j hd => ?_, fun k hk j hd => ?_⟩
  · rw [hset]
    by_cases e : j = i
    · subst e; simp [hnot]
    · rw [if_neg e, h.unl j hj]
      simp [e]
  · rw [hset]
    by_cases e' : j = i
    · exact .inl (by rw [if_pos e'])
    · rw [if_neg e']
      -- where k stands in what there was
      have hk : k ∈ pre ++ i :: post := hsub.subset (by rw [e]; simp)
      rcases List.append_eq_append_iff.1 e with ⟨as, h1, h2⟩ | ⟨bs, h1, h2⟩
      · -- pre is a begin of p
        have := h.lin (pre ++ i :: as) k q (by rw [h2]; simp) j hd
        rcases this with h3 | h3
        · exact .inl h3
        · right
          rw [h1]
          simp only [List.mem_append, List.mem_cons] at h3 ⊢
          rcases h3 with h3 | h3 | h3
          · exact .inl h3
          · exact absurd h3 e'
          · exact .inr h3
      · cases bs with
        | nil =>
          simp only [List.append_nil] at h1
          simp only [List.nil_append] at h2
          subst h1
          have := h.lin (pre ++ [i]) k q (by rw [← h2]; simp) j hd
          rcases this with h3 | h3
          · exact .inl h3
          · simp only [List.mem_append, List.mem_singleton] at h3
            exact h3.elim .inr fun h3 => absurd h3 e'
        | cons b bs =>
          simp only [List.cons_append, List.cons.injEq] at h2
          obtain ⟨rfl, h2⟩ := h2
          have := h.lin p k (bs ++ i :: post) (by rw [h1]; simp) j hd
          exact this
  · rw [hset] at hk ⊢
    by_cases e' : j = i
    · rw [if_pos e']
    · rw [if_neg e']
      by_cases e : k = i
      · subst e; exact hpre j hd
      · rw [if_neg e] at hk
        exact h.closed k hk j hd

theorem any_sound {n : Nat} (hd : dstsOk n ops = true) : ∀ (fuel : Nat) (listed : Array Bool) (r : List Nat) (E : AEnv) (σ : St), Left ops kd.k listed r → r.length = fuel → Runs P w0 ops kd Q r E σ → ∀ {G : Gh} {w : World} {a : Act}, Inv w0 G σ w → RelE G w E a → a.tmps.size = n →
    ∀ {Qx : Exit → Act → World → Prop}, (∀ E' σ' G' w' a', Q E' σ' → Inv w0 G' σ' w' → RelE G' w' E' a' → a'.tmps.size = n → a'.defers = a.defers → Ext G w G' w' → Qx .normal a' w') → ∀ ro, wpAnyIn (wideAt ro) 0 P .any ops Qx fuel listed a w
  | 0, listed, r, E, σ, hL, hlen, hr, G, w, a, hI, hE, hn, Qx, hk, ro => by
    have : r = [] := List.eq_nil_of_length_eq_zero hlen
    subst this
    refine ⟨?_, hk E σ G w a hr hI hE hn rfl (.refl G w)⟩
    apply List.eq_nil_iff_forall_not_mem.2
    intro i hi
    obtain ⟨hlt, hun, _⟩ := ready_mem.1 hi
    have := (hL.unl i hlt).1 hun
    simp at this
  | fuel + 1, listed, r, E, σ, hL, hlen, hr, G, w, a, hI, hE, hn, Qx, hk, ro => by
    refine ⟨fun hnil => ?_, fun i hi => ?_⟩
    · exfalso
      cases r with
      | nil => simp at hlen
      | cons i r =>
        have hlt := hL.lt i (by simp)
        have hun := (hL.unl i hlt).2 (by simp)
        have : i ∈ Region.ready .any ops listed := ready_mem.2 ⟨hlt, hun, fun j hd => by
          rcases hL.lin [] i r rfl j hd with h | h
          · exact h
          · simp at h⟩
        rw [hnil] at this
        simp at this
    · obtain ⟨pre, post, rfl, hr'⟩ := runs_first hL hi hr
      refine step_run hd hr' hI hE hn (fun E' σ' G' w' a' hr2 hI' hE' hn' hdf e => ?_) ro
      refine any_sound hd fuel _ (pre ++ post) E' σ' (hL.step hi) (by simp at hlen ⊢; omega) hr2 hI' hE' hn' (fun E2 σ2 G2 w2 a2 q hI2 hE2 hn2 hd2 e2 => ?_) ro
      exact hk E2 σ2 G2 w2 a2 q hI2 hE2 hn2 (hd2.trans hdf) (e.trans e2)

theorem order_left {l : List Nat} (h : orderOk ops kind l = true) : Left ops kind (Array.replicate ops.size false) l ∧ l.length = ops.size := by
  simp only [orderOk, Bool.and_eq_true, beq_iff_eq, List.all_eq_true, List.mem_range, List.contains_iff_mem, decide_eq_true_eq] at h
  obtain ⟨⟨⟨⟨⟨h1, h2⟩, hlt⟩, hnd⟩, h3⟩, h4⟩ := h
  have hw := masks_spec (ops := ops) ops.toList [] [] (by simp) rfl (fun i j h => by simp at h)
  refine ⟨⟨by simp, hlt, fun i hi => ?_, hnd, (pairs_pw h4).imp fun h => h.imp (hw _ _) id, fun pre i post e j hd => ?_, fun i hi => ?_⟩, h1⟩
  · simp [Array.getD, hi, h2 i hi]
  · rcases lin_spec h3 e j hd with h | h
    · simp at h
    · exact .inr h
  · simp [Array.getD] at hi
end
end Go.Al
end
section
set_option linter.unusedVariables false
set_option linter.unusedSimpArgs false
namespace Go.Al
open Go.RowKit
theorem putObj_cell {w : World} {l : Nat} {o o' : Obj} (h : w.heap[l]? = some o) (ho : o.isCells = false) (ho' : o'.isCells = false) (b q : Nat) : (w.putObj l o').cell? ⟨b, q, none⟩ = w.cell? ⟨b, q, none⟩ := by
  by_cases e : b = l
  · subst e
    have := World.putObj_heap_same (o := o') (lt_of_get h)
    simp only [World.cell?, this, h]
    cases o <;> simp_all [Obj.isCells] <;> cases o' <;> simp_all [Obj.isCells]
  · exact cell_same (World.putObj_heap_other e)
theorem putObj_ext0 {G : Gh} {w : World} {l : Nat} {o o' : Obj} (h : w.heap[l]? = some o) (ho : o.isCells = false) (ho' : o'.isCells = false) : Ext0 G w G (w.putObj l o') :=
  ⟨rfl, fun _ _ h => h, fun _ _ h => h, fun _ _ h => h, fun b q v _ hc => by rw [putObj_cell h ho ho']; exact hc⟩
theorem putObj_sol {w : World} {l : Nat} {o o' : Obj} (h : w.heap[l]? = some o) (hd : ∀ ds, o ≠ .deferred ds) (hl : ∀ r, o = .loop r → ∃ r', o' = .loop r') : Sol w (w.putObj l o') := by
  refine ⟨by simp, fun k ds e => ?_, fun k r e => ?_⟩
  · by_cases hk : k = l
    · subst hk; rw [h] at e; cases e; exact absurd rfl (hd ds)
    · rw [World.putObj_heap_other hk]; exact e
  · by_cases hk : k = l
    · subst hk; rw [h] at e; cases e
      obtain ⟨r', rfl⟩ := hl r rfl
      exact ⟨r', World.putObj_heap_same (lt_of_get h)⟩
    · exact ⟨r, by rw [World.putObj_heap_other hk]; exact e⟩
theorem putObj_ext {G : Gh} {w : World} {l : Nat} {o o' : Obj} (h : w.heap[l]? = some o) (ho : o.isCells = false) (ho' : o'.isCells = false) (hd : ∀ ds, o ≠ .deferred ds) (hl : ∀ r, o = .loop r → ∃ r', o' = .loop r') : Ext G w G (w.putObj l o') :=
  ⟨rfl, fun _ _ h => h, fun _ _ h => h, fun _ _ h => h, fun b q v _ hc => by rw [putObj_cell h ho ho']; exact hc, putObj_sol h hd hl⟩
theorem Inv.putOb {w0 : Base} {G : Gh} {σ σ' : St} {w : World} {l : Nat} {o o' : Obj} (hI : Inv w0 G σ w) (hb : G.base ≤ l) (h : w.heap[l]? = some o) (ho : o.isCells = false) (ho' : o'.isCells = false) (e1 : σ'.box = σ.box) (e2 : σ'.tok = σ.tok)
    (e3 : ∀ i q, σ'.obj i = some q → (i ≠ l ∧ σ.obj i = some q) ∨ ObOk G (w.putObj l o') i q) : Inv w0 G σ' (w.putObj l o') := by
  have e := putObj_ext0 (G := G) h ho ho'
  have hc : ∀ (k : Nat) (c : Array Value) (T : TypeId) (fr : Nat × Nat), w.heap[k]? = some (.cells c T fr) → (w.putObj l o').heap[k]? = some (.cells c T fr) := fun k c T fr hk => by
    rw [World.putObj_heap_other (by rintro rfl; rw [h] at hk; cases hk; cases ho)]; exact hk
  refine ⟨hI.base, hI.old.trans ⟨rfl, rfl, rfl, by simp, fun k hk => World.putObj_heap_other (by rw [hI.base] at hk hb; omega)⟩, fun i cs hi => ?_, fun i j m hi hj => hI.binj i j m (by rw [← e1]; exact hi) (by rw [← e1]; exact hj), fun t ht => ?_, fun s t m q l q' l' hs ht => hI.tinj s t m q l q' l' (by rw [← e2]; exact hs) (by rw [← e2]; exact ht), fun i t m q l hi ht => hI.apart i t m q l (by rw [← e1]; exact hi) (by rw [← e2]; exact ht), fun b o h => by simpa using hI.immlt b o h, fun i m h => by simpa using hI.boxlt i m h, fun i m e l h => by simpa using hI.toklt i m e l h, hI.fresh, fun i q hi => ?_⟩
  · rw [e1] at hi
    obtain ⟨m, c, T, h1, h2, h3, h4, h5⟩ := (hI.box i cs hi).ex
    exact ⟨m, c, T, h1, h2, hc _ _ _ _ h3, h4.ext0 e, h5⟩
  · rw [e2] at ht
    obtain ⟨m, e', lim, c, T, fr, h1, h2, h3, h4⟩ := (hI.tok t ht).ex
    exact ⟨m, e', lim, c, T, fr, h1, h2, hc _ _ _ _ h3, h4⟩
  · rcases e3 i q hi with ⟨hne, h0⟩ | h1
    · cases hI.obj i q h0 with
      | loop hb here rel => exact .loop hb ((World.putObj_heap_other hne).trans here) fun t => (rel t).ext0 e
      | map hb here hk hv hc hn => exact .map hb ((World.putObj_heap_other hne).trans here) (hk.ext0 e) (hv.ext0 e) hc hn
      | str hb here => exact .str hb ((World.putObj_heap_other hne).trans here)
    · exact h1
theorem Inv.newOb {w0 : Base} {G : Gh} {σ : St} {w : World} {o : Obj} {q : Ob} (hI : Inv w0 G σ w) (hq : ∀ w', Ext G w G w' → w'.heap[w.heap.size]? = some o → ObOk G w' w.heap.size q) :
    Inv w0 G (σ.setObj w.heap.size (some q)) { w with heap := w.heap.push o } ∧ Ext G w G { w with heap := w.heap.push o } := by
  have g := grows_plain G w o
  have i := g.inv hI
  refine ⟨⟨i.base, i.old, i.box, i.binj, i.tok, i.tinj, i.apart, i.immlt, i.boxlt, i.toklt, i.fresh, fun l q' h => ?_⟩, g.ext⟩
  by_cases hl : l = w.heap.size
  · subst hl
    have h' : some q = some q' := by simpa [St.setObj] using h
    cases h'
    exact hq _ g.ext g.new
  · have h' : σ.obj l = some q' := by simpa [St.setObj, hl] using h
    exact i.obj l q' h'
theorem Inv.obj_lt {w0 : Base} {G : Gh} {σ : St} {w : World} (hI : Inv w0 G σ w) {l : Nat} {o : Ob} (h : σ.obj l = some o) : l < w.heap.size := by
  cases hI.obj l o h with
  | loop _ here _ => exact lt_of_get here
  | map _ here _ _ _ _ => exact lt_of_get here
  | str _ here => exact lt_of_get here
theorem Inv.obj_new {w0 : Base} {G : Gh} {σ : St} {w : World} (hI : Inv w0 G σ w) {l : Nat} (hl : w.heap.size ≤ l) : σ.obj l = none := by
  cases h : σ.obj l with
  | none => rfl
  | some x => have := hI.obj_lt h; omega
end Go.Al
end
section
set_option linter.unusedVariables false
set_option linter.unusedSimpArgs false
namespace Go.Al
open Go.RowKit

def markOf (D : Nat) : Deferred := { target := .collected D, args := #[] }
structure Fr (ro : Ro) (w : World) (ds : List Deferred) : Prop where
  marks : ∃ Ds : List Nat, ds = Ds.map markOf ∧ Ds.Nodup ∧ ∀ D ∈ Ds, ro.lo ≤ D ∧ w.heap[D]? = some (.deferred (some []))
  loop : ∀ l, ro.l = some l → ∃ r, w.heap[l]? = some (.loop r)
  lo : ro.lo ≤ w.heap.size
theorem Fr.ext {ro : Ro} {w w' : World} {ds : List Deferred} {G G' : Gh} (h : Fr ro w ds) (e : Ext G w G' w') : Fr ro w' ds := by
  obtain ⟨Ds, h1, h2, h3⟩ := h.marks
  refine ⟨⟨Ds, h1, h2, fun D hD => ⟨(h3 D hD).1, e.sol.dfr _ _ (h3 D hD).2⟩⟩, fun l hl => ?_, Nat.le_trans h.lo e.sol.size⟩
  obtain ⟨r, hr⟩ := h.loop l hl
  exact e.sol.lp _ _ hr
theorem Fr.to {ro : Ro} {w w' : World} {ds ds' : List Deferred} {G G' : Gh} (h : Fr ro w ds) (he : ds' = ds) (e : Ext G w G' w') : Fr ro w' ds' := by subst he; exact h.ext e
theorem Fr.nil {w : World} : Fr ⟨none, w.heap.size⟩ w [] := ⟨⟨[], rfl, .nil, by simp⟩, by simp, Nat.le_refl _⟩
structure W (P : Program) (w0 : Base) (n : Nat) (c : Code) (Q : Exit → AEnv → St → Prop) (E : AEnv) (σ : St) : Prop where
  go : ∀ G w a, Inv w0 G σ w → RelE G w E a → a.tmps.size = n → ∀ ro : Ro, Fr ro w a.defers →
    c.wpIn (wideAt ro) 0 P (fun e a' w' => ∃ E' σ' G', Q e E' σ' ∧ Inv w0 G' σ' w' ∧ RelE G' w' E' a' ∧ a'.tmps.size = n ∧ Fr ro w' a'.defers ∧ Ext G w G' w') a w

section
variable {P : Program} {w0 : Base} {n : Nat} {Q : Exit → AEnv → St → Prop} {E : AEnv} {σ : St}

theorem W.mono {c : Code} {Q' : Exit → AEnv → St → Prop} (h : W P w0 n c Q E σ) (hq : ∀ e E σ, Q e E σ → Q' e E σ) : W P w0 n c Q' E σ :=
  ⟨fun G w a hI hE hn ro hd => wpIn_mono (h.go G w a hI hE hn ro hd) fun e a' w' ⟨E', σ', G', q, r⟩ => ⟨E', σ', G', hq _ _ _ q, r⟩⟩
theorem W.skip (h : Q .normal E σ) : W P w0 n .skip Q E σ := ⟨fun G w a hI hE hn ro hd => wpIn_skip ⟨E, σ, G, h, hI, hE, hn, hd, .refl G w⟩⟩
theorem W.label {l : Nat} (h : Q .normal E σ) : W P w0 n (.label l) Q E σ := ⟨fun G w a hI hE hn ro hd => wpIn_label ⟨E, σ, G, h, hI, hE, hn, hd, .refl G w⟩⟩
theorem W.exit {id : Nat} (h : Q (.exit id) E σ) : W P w0 n (.exit id) Q E σ := ⟨fun G w a hI hE hn ro hd => wpIn_exit ⟨E, σ, G, h, hI, hE, hn, hd, .refl G w⟩⟩
theorem W.goto {l : Nat} (h : Q (.goto l) E σ) : W P w0 n (.goto l) Q E σ := ⟨fun G w a hI hE hn ro hd => wpIn_goto ⟨E, σ, G, h, hI, hE, hn, hd, .refl G w⟩⟩
theorem W.ret (h : Q .ret E σ) : W P w0 n .ret Q E σ := ⟨fun G w a hI hE hn ro hd => wpIn_ret ⟨E, σ, G, h, hI, hE, hn, hd, .refl G w⟩⟩
def thenQ (next : AEnv → St → Prop) (Q : Exit → AEnv → St → Prop) : Exit → AEnv → St → Prop
  | .normal, E, σ => next E σ
  | e, E, σ => Q e E σ
theorem W.seq {x y : Code} (h : W P w0 n x (thenQ (fun E σ => W P w0 n y Q E σ) Q) E σ) : W P w0 n (.seq x y) Q E σ := ⟨fun G w a hI hE hn ro hd => by
  refine wpIn_seq (wpIn_mono (h.go G w a hI hE hn ro hd) ?_)
  rintro e a' w' ⟨E', σ', G', q, hI', hE', hn', hd', ex⟩
  cases e with
  | normal => exact wpIn_mono (q.go G' w' a' hI' hE' hn' ro hd') fun e2 a2 w2 ⟨E2, σ2, G2, q2, r1, r2, r3, r4, r5⟩ => ⟨E2, σ2, G2, q2, r1, r2, r3, r4, ex.trans r5⟩
  | exit id => exact ⟨E', σ', G', q, hI', hE', hn', hd', ex⟩
  | goto l => exact ⟨E', σ', G', q, hI', hE', hn', hd', ex⟩
  | ret => exact ⟨E', σ', G', q, hI', hE', hn', hd', ex⟩
  | panic c => exact ⟨E', σ', G', q, hI', hE', hn', hd', ex⟩
  | outgrown => exact ⟨E', σ', G', q, hI', hE', hn', hd', ex⟩⟩
theorem W.cond {c : Operand} {x y : Code} {t : Bool} (hc : aeval E c = .bool t) (ht : t = true → W P w0 n x Q E σ) (hf : t = false → W P w0 n y Q E σ) : W P w0 n (.cond c x y) Q E σ := ⟨fun G w a hI hE hn ro hd => by
  have hr := aeval_rel hE c
  rw [hc] at hr
  have hv : a.eval c = .bool t := hr.val rfl
  refine wpIn_cond_split hv (fun e => (ht e).go G w a hI hE hn ro hd) (fun e => (hf e).go G w a hI hE hn ro hd)⟩
def blockQ (id : Nat) (Q : Exit → AEnv → St → Prop) : Exit → AEnv → St → Prop
  | .exit id', E, σ => if id' = id then Q .normal E σ else Q (.exit id') E σ
  | e, E, σ => Q e E σ
theorem W.block {id : Nat} {c : Code} (h : W P w0 n c (blockQ id Q) E σ) : W P w0 n (.block id c) Q E σ := ⟨fun G w a hI hE hn ro hd => by
  refine wpIn_block (wpIn_mono (h.go G w a hI hE hn ro hd) ?_)
  rintro e a' w' ⟨E', σ', G', q, r⟩
  cases e with
  | exit id' =>
    simp only [Exit.inBlock, blockQ] at q ⊢
    split
    · rename_i e; rw [if_pos e] at q; exact ⟨E', σ', G', q, r⟩
    · rename_i e; rw [if_neg e] at q; exact ⟨E', σ', G', q, r⟩
  | normal => exact ⟨E', σ', G', q, r⟩
  | goto l => exact ⟨E', σ', G', q, r⟩
  | ret => exact ⟨E', σ', G', q, r⟩
  | panic c => exact ⟨E', σ', G', q, r⟩
  | outgrown => exact ⟨E', σ', G', q, r⟩⟩
theorem W.loop {c : Code} (I : Nat → AEnv → St → Prop) (k : Nat) (h0 : I k E σ) (round : ∀ k E σ, I k E σ → W P w0 n c (thenQ (fun E' σ' => ∃ k', k' < k ∧ I k' E' σ') Q) E σ) : W P w0 n (.loop c) Q E σ := ⟨fun G0 wst a hI hE hn ro hd b kk cs hro hb hr => by
  have H : ∀ k E σ G w a, I k E σ → Inv w0 G σ w → RelE G w E a → a.tmps.size = n → Fr ro w a.defers →
      ∃ e a' w', (∃ E' σ' G', Q e E' σ' ∧ Inv w0 G' σ' w' ∧ RelE G' w' E' a' ∧ a'.tmps.size = n ∧ Fr ro w' a'.defers ∧ Ext G w G' w') ∧ ArrivesIn (Machine.fenced P (wideAt ro)) P (lone (b.atR a (.code c :: .inLoop c :: kk)) cs w) b kk cs e a' w' := by
    intro k
    induction k using Nat.strongRecOn with
    | _ k ih =>
      intro E σ G w a hi hI hE hn hd
      obtain ⟨e, a₁, w₁, ⟨E1, σ1, G1, q, hI1, hE1, hn1, hd1, ex⟩, harr⟩ := (round k E σ hi).go G w a hI hE hn ro hd b (.inLoop c :: kk) cs hro hb hr
      cases e with
      | normal =>
        obtain ⟨k', hlt, hi'⟩ := q
        obtain ⟨e₂, a₂, w₂, ⟨E2, σ2, G2, q2, r1, r2, r3, r4, r5⟩, harr₂⟩ := ih k' hlt E1 σ1 G1 w₁ a₁ hi' hI1 hE1 hn1 hd1
        exact ⟨e₂, a₂, w₂, ⟨E2, σ2, G2, q2, r1, r2, r3, r4, ex.trans r5⟩, .of_steps (StepsIn.trans harr (.one (fenced_calm hb hr rfl) stepR_inLoop)) harr₂⟩
      | exit id => exact ⟨_, a₁, w₁, ⟨E1, σ1, G1, q, hI1, hE1, hn1, hd1, ex⟩, .pass (x := .inLoop c) rfl (fun _ _ => .inl (by simp)) harr⟩
      | goto l => exact ⟨_, a₁, w₁, ⟨E1, σ1, G1, q, hI1, hE1, hn1, hd1, ex⟩, .pass (x := .inLoop c) rfl (fun _ _ => .inl (by simp)) harr⟩
      | ret => exact ⟨_, a₁, w₁, ⟨E1, σ1, G1, q, hI1, hE1, hn1, hd1, ex⟩, .pass (x := .inLoop c) rfl (fun _ _ => .inl (by simp)) harr⟩
      | panic ch => exact ⟨_, a₁, w₁, ⟨E1, σ1, G1, q, hI1, hE1, hn1, hd1, ex⟩, .pass (x := .inLoop c) rfl (fun _ _ => .inl (by simp)) harr⟩
      | outgrown => exact ⟨_, a₁, w₁, ⟨E1, σ1, G1, q, hI1, hE1, hn1, hd1, ex⟩, .pass (x := .inLoop c) rfl (fun _ _ => .inl (by simp)) harr⟩
  obtain ⟨e, a', w', hq, harr⟩ := H k E σ G0 wst a h0 hI hE hn hd
  exact ⟨e, a', w', hq, .of_steps (.one (fenced_calm hb hr rfl) stepR_loop) harr⟩⟩

theorem W.region {id : Nat} {ops : Array Oper} (hd : dstsOk n ops = true) (h : Runs P w0 ops ⟨fun _ => 2, 0, none⟩ (fun E σ => Q .normal E σ) (List.range ops.size) E σ) : W P w0 n (.region id ops false) Q E σ := ⟨fun G w a hI hE hn ro hdf => by
  refine wpIn_region (runs_sound hd _ E σ h hI hE hn (fun E' σ' G' w' a' q r1 r2 r3 r4 r5 => ?_) ro)
  exact ⟨E', σ', G', q, r1, r2, r3, hdf.to r4 r5, r5⟩⟩
theorem W.regionD {id : Nat} {ops : Array Oper} (hm : P.follows .mixedOrders = true) (kind : Kd) (l : List Nat) (ho : orderOk ops kind.k l = true) (hd : dstsOk n ops = true) (h : Runs P w0 ops kind (fun E σ => Q .normal E σ) l E σ) :
    W P w0 n (.region id ops true) Q E σ := ⟨fun G w a hI hE hn ro hdf => by
  obtain ⟨hL, hlen⟩ := order_left ho
  have hA : Alike0 w { w with drawn := w.drawn + 1 } := ⟨rfl, rfl, rfl, rfl⟩
  refine wpIn_region_any hm (any_sound hd _ _ l E σ hL hlen h (hA.inv hI) (hE.ext hA.ext) hn (fun E' σ' G' w' a' q r1 r2 r3 r4 r5 => ?_) ro)
  exact ⟨E', σ', G', q, r1, r2, r3, hdf.to r4 (hA.ext.trans r5), hA.ext.trans r5⟩⟩

def scopeQ (P : Program) (w0 : Base) (n : Nat) (c : Code) (Q : Exit → AEnv → St → Prop) : Nat → Exit → AEnv → St → Prop
  | 0, .goto _, _, _ => False
  | k + 1, .goto l, E, σ => ∃ rest, findLabel c l = some rest ∧ W P w0 n rest (scopeQ P w0 n c Q k) E σ
  | _, e, E, σ => Q e E σ
theorem stepR_scope {c : Code} {b : Frame} {a : Act} {k : List Item} {cs : List Frame} {w : World} : step P (lone (b.atR a (.code (.scope c) :: k)) cs w) = .next (lone (b.atR a (.code c :: .inScope c :: k)) cs w) :=
  step_lone_go (by simp [stepG, stepG.exec, Frame.atR])
theorem stepR_inScope {c : Code} {b : Frame} {a : Act} {k : List Item} {cs : List Frame} {w : World} : step P (lone (b.atR a (.inScope c :: k)) cs w) = .next (lone (b.atR a k) cs w) :=
  step_lone_go (by simp [stepG, stepG.exec, Frame.atR])
theorem scope_arrives {c : Code} {b : Frame} {kk : List Item} {cs : List Frame} {ro : Ro} (hro : b.roundOf = (wideAt ro).round) (hb : (wideAt ro).fn b.fn) (hr : (wideAt ro).room (cs.length + 1 + 0)) : ∀ (k : Nat) (e : Exit) (E : AEnv) (σ : St) (G : Gh) (w w1 : World) (G1 : Gh) (a a1 : Act) (m : Machine), scopeQ P w0 n c Q k e E σ → Inv w0 G1 σ w1 → RelE G1 w1 E a1 → a1.tmps.size = n → Fr ro w1 a1.defers → Ext G w G1 w1 →
    ArrivesIn (Machine.fenced P (wideAt ro)) P m b (.inScope c :: kk) cs e a1 w1 → ∃ e a' w', (∃ E' σ' G', Q e E' σ' ∧ Inv w0 G' σ' w' ∧ RelE G' w' E' a' ∧ a'.tmps.size = n ∧ Fr ro w' a'.defers ∧ Ext G w G' w') ∧ ArrivesIn (Machine.fenced P (wideAt ro)) P m b kk cs e a' w' := by
  intro k
  induction k with
  | zero =>
    intro e E σ G w w1 G1 a a1 m q hI hE hn hd ex harr
    cases e with
    | goto l => exact q.elim
    | normal => exact ⟨.normal, a1, w1, ⟨E, σ, G1, q, hI, hE, hn, hd, ex⟩, StepsIn.trans harr (.one (fenced_calm hb hr rfl) stepR_inScope)⟩
    | exit id => exact ⟨.exit id, a1, w1, ⟨E, σ, G1, q, hI, hE, hn, hd, ex⟩, ⟨fun k' hk => harr.1 k' (by simp [exitTo, hk]), fun h1 h2 => harr.2 h1 (by simp [exitTo, h2])⟩⟩
    | ret => exact ⟨_, a1, w1, ⟨E, σ, G1, q, hI, hE, hn, hd, ex⟩, harr⟩
    | panic ch => exact ⟨_, a1, w1, ⟨E, σ, G1, q, hI, hE, hn, hd, ex⟩, harr⟩
    | outgrown => exact ⟨_, a1, w1, ⟨E, σ, G1, q, hI, hE, hn, hd, ex⟩, harr⟩
  | succ k ih =>
    intro e E σ G w w1 G1 a a1 m q hI hE hn hd ex harr
    cases e with
    | goto l =>
      obtain ⟨rest, hf, hw⟩ := q
      have hg : gotoIn l (.inScope c :: kk) = some (.code rest :: .inScope c :: kk) := by simp [gotoIn, hf]
      obtain ⟨e₂, a₂, w₂, ⟨E2, σ2, G2, q2, r1, r2, r3, r4, r5⟩, harr₂⟩ := hw.go G1 w1 a1 hI hE hn ro hd b (.inScope c :: kk) cs hro hb hr
      exact ih e₂ E2 σ2 G w w₂ G2 a a₂ m q2 r1 r2 r3 r4 (ex.trans r5) (.of_steps (harr.1 _ hg) harr₂)
    | normal => exact ⟨.normal, a1, w1, ⟨E, σ, G1, q, hI, hE, hn, hd, ex⟩, StepsIn.trans harr (.one (fenced_calm hb hr rfl) stepR_inScope)⟩
    | exit id => exact ⟨.exit id, a1, w1, ⟨E, σ, G1, q, hI, hE, hn, hd, ex⟩, ⟨fun k' hk => harr.1 k' (by simp [exitTo, hk]), fun h1 h2 => harr.2 h1 (by simp [exitTo, h2])⟩⟩
    | ret => exact ⟨_, a1, w1, ⟨E, σ, G1, q, hI, hE, hn, hd, ex⟩, harr⟩
    | panic ch => exact ⟨_, a1, w1, ⟨E, σ, G1, q, hI, hE, hn, hd, ex⟩, harr⟩
    | outgrown => exact ⟨_, a1, w1, ⟨E, σ, G1, q, hI, hE, hn, hd, ex⟩, harr⟩
theorem W.scope {c : Code} (k : Nat) (h : W P w0 n c (scopeQ P w0 n c Q k) E σ) : W P w0 n (.scope c) Q E σ := ⟨fun G w a hI hE hn ro hd b kk cs hro hb hr => by
  obtain ⟨e, a₁, w₁, ⟨E1, σ1, G1, q, hI1, hE1, hn1, hd1, ex⟩, harr⟩ := h.go G w a hI hE hn ro hd b (.inScope c :: kk) cs hro hb hr
  exact scope_arrives hro hb hr k e E1 σ1 G w w₁ G1 a a₁ _ q hI1 hE1 hn1 hd1 ex (.of_steps (.one (fenced_calm hb hr rfl) stepR_scope) harr)⟩

structure Weak (x y : AV) : Prop where
  go : ∀ G w v, Rel G w y v → Rel G w x v
theorem Weak.refl (x : AV) : Weak x x := ⟨fun _ _ _ h => h⟩
theorem Weak.und (x : AV) : Weak .und x := ⟨fun _ _ v _ => .und v⟩
theorem Weak.tok (sz : Nat) (xs : List AV) (t : Tok) : Weak (.slc sz xs .no) (.slc sz xs t) := ⟨fun G w v h => by
  cases h with
  | slc hn hc hm hsz hr hl ht => exact .slc hn hc hm hsz hr hl trivial⟩
theorem Weak.nils (sz : Nat) (t : Tok) (h : t = .no ∨ t = .full) : Weak (.slc sz [] t) .nils := ⟨fun G w v hv => by
  rcases h with rfl | rfl
  · exact (Weak.tok sz [] .full).go _ _ _ (nils_slc sz hv)
  · exact nils_slc sz hv⟩
inductive WeakL : List AV → List AV → Prop
  | nil : WeakL [] []
  | cons {x y : AV} {xs ys : List AV} (h : Weak x y) (t : WeakL xs ys) : WeakL (x :: xs) (y :: ys)
theorem WeakL.refl : ∀ xs : List AV, WeakL xs xs
  | [] => .nil
  | x :: xs => .cons (.refl x) (WeakL.refl xs)
theorem WeakL.rel {G : Gh} {w : World} : ∀ {xs ys : List AV} {vs : List Value}, WeakL xs ys → RelL G w ys vs → RelL G w xs vs
  | _, _, _, .nil, .nil => .nil
  | _, _, _, .cons h t, .cons h' t' => .cons (h.go _ _ _ h') (t.rel t')
theorem WeakL.one : ∀ {xs ys : List AV}, WeakL xs ys → xs.length = ys.length
  | _, _, .nil => rfl
  | _, _, .cons _ t => by simp [t.one]
theorem Weak.agg {xs ys : List AV} (h : WeakL xs ys) (h1 : ∀ c ∈ xs, c.one = true) : Weak (.agg xs) (.agg ys) := ⟨fun G w v hv => by
  cases hv with
  | agg _ hr => exact .agg h1 (h.rel hr)⟩
theorem Weak.tup {xs ys : List AV} (h : WeakL xs ys) : Weak (.tup xs) (.tup ys) := ⟨fun G w v hv => by
  cases hv with
  | tup hr => exact .tup (h.rel hr)⟩
theorem Weak.trans {x y z : AV} (h : Weak x y) (k : Weak y z) : Weak x z := ⟨fun G w v hv => h.go _ _ _ (k.go _ _ _ hv)⟩
def env : List (Nat × AV) → AEnv
  | [], _ => .und
  | (k, x) :: l, t => if t = k then x else env l t
theorem weak_env : ∀ (l : List (Nat × AV)) (E : AEnv), (∀ p ∈ l, Weak p.2 (E p.1)) → ∀ t, Weak (env l t) (E t)
  | [], E, _, t => .und _
  | (k, x) :: l, E, h, t => by
    rw [env]
    split
    · rename_i e; subst e; exact h (t, x) (by simp)
    · exact weak_env l E (fun p hp => h p (by simp [hp])) t
theorem W.weaken {c : Code} {E' : AEnv} {σ' : St} (hE : ∀ t, Weak (E' t) (E t)) (hσ : St.Le σ' σ) (h : W P w0 n c Q E' σ') : W P w0 n c Q E σ :=
  ⟨fun G w a hI hR hn hd => h.go G w a (hI.drop hσ) ⟨fun t => (hE t).go _ _ _ (hR.get t)⟩ hn hd⟩

structure CallW (P : Program) (w0 : Base) (f : FuncId) (args : List AV) (σ : St) (K : AV → St → Prop) : Prop where
  go : ∀ G w vs, Inv w0 G σ w → RelL G w args vs → Calls P f vs.toArray w (fun e w' => ∃ v r σ' G', e = .returned v ∧ K r σ' ∧ Inv w0 G' σ' w' ∧ Ext G w G' w' ∧ Rel G' w' r v)
theorem CallW.mono {f : FuncId} {args : List AV} {K K' : AV → St → Prop} (h : CallW P w0 f args σ K) (hk : ∀ r s, K r s → K' r s) : CallW P w0 f args σ K' :=
  ⟨fun G w vs hI hr => (h.go G w vs hI hr).mono fun e w' ⟨v, r, σ', G', h1, h2, h3⟩ => ⟨v, r, σ', G', h1, hk _ _ h2, h3⟩⟩
theorem CallW.weaken {f : FuncId} {args args' : List AV} {K : AV → St → Prop} (h : CallW P w0 f args' σ K) (ha : WeakL args' args) : CallW P w0 f args σ K :=
  ⟨fun G w vs hI hr => h.go G w vs hI (ha.rel hr)⟩
structure Own (P : Program) (f : FuncId) : Prop where
  ex : ∃ fn, P.funcs[f]? = some fn ∧ (fn.name == "runtime.NumGoroutine") = false ∧ fn.body.isSome = true
theorem own_enter {f : FuncId} (h : Own P f) (args : Array Value) (w : World) : (callFunc f args).run P w = .ok (.enter f args) w := by
  obtain ⟨fn, h1, h2, h3⟩ := h.ex
  have h3' : ¬ fn.body = none := fun e => by rw [e] at h3; cases h3
  have h2' : ¬ fn.name = "runtime.NumGoroutine" := by simpa using h2
  simp [callFunc, h1, h2', h3']
theorem op_call {o : Oper} {x : Operand} {args : Array Operand} {ts : Array TypeId} (ho : o.op = .call { callee := .value x, args, argTypes := ts }) {f : FuncId} {first cap : List AV} (hx : aeval E x = .fn (.func f) first cap) (hf : Own P f) {K : AV → St → Prop}
    (h : CallW P w0 f (first ++ args.toList.map (aeval E) ++ cap) σ K) : OpW P w0 o E σ K := ⟨fun G w a hI hE next Qx hn ro => by
  have hxr := hE.get x (by simp [ho, Op.operands, Call.operands])
  rw [hx] at hxr
  have har := evals_rel args.toList fun y hy => hE.get y (by simp [ho, Op.operands, Call.operands]; exact .inr (by simpa using hy))
  generalize hv : a.eval x = v at hxr
  cases hxr with
  | fn h1 h2 =>
    rename_i vs us
    have hall := (h1.append har).append h2
    have hc := h.go G w _ hI hall
    have hrun : (execOp a.eval o).run P w = .ok (.enter f (vs.toArray ++ args.map a.eval ++ us.toArray)) w := by
      simp only [execOp, ho, resolve, hv, Deferred.ofValue, Sem.run_bind, Sem.run_pure, Result.andThen_ok, invoke]
      exact own_enter hf _ w
    have e : (vs ++ args.toList.map a.eval ++ us).toArray = vs.toArray ++ args.map a.eval ++ us.toArray := by apply Array.ext'; simp
    rw [e] at hc
    refine wide_enter hrun (Calls.mono hc ?_) ro
    rintro e w' ⟨v, r, σ', G', rfl, hk, hI', ex, hrel⟩
    exact hn v w' G' r σ' hk hI' ex hrel⟩

def aResult (P : Program) (E : AEnv) (σ : St) : ResultVar → Option AV
  | .tmp t => some (E t)
  | .cell a t => match E a with
    | .ptr b off => (σ.box b).bind fun cs => aLoadBox P t cs off
    | _ => none
def aResults (P : Program) (E : AEnv) (σ : St) : List ResultVar → Option (List AV)
  | [] => some []
  | r :: rs => (aResult P E σ r).bind fun x => (aResults P E σ rs).map (x :: ·)
def aTuple : List AV → AV
  | [x] => x
  | l => .tup l
def resSem (tmps : Array Value) : ResultVar → Sem Value
  | .tmp t => Pure.pure (tmps.getD t undef)
  | .cell b t => asAddr (tmps.getD b undef) >>= fun ad => loadVar t ad
theorem results_eq (fn : Func) (tmps : Array Value) : results fn tmps = (fn.results.mapM (resSem tmps) >>= fun vs => Pure.pure (if h : vs.size = 1 then vs[0] else .tuple vs)) := by
  unfold results
  congr 2
theorem aResult_run {G : Gh} {w : World} {a : Act} (hI : Inv w0 G σ w) (hE : RelE G w E a) {r : ResultVar} {x : AV} (h : aResult P E σ r = some x) :
    ∃ v, (resSem a.tmps r).run P w = .ok v w ∧ Rel G w x v := by
  cases r with
  | tmp t => simp only [aResult, Option.some.injEq] at h; subst h; exact ⟨_, rfl, hE.get t⟩
  | cell b t =>
    simp only [aResult] at h
    split at h
    · rename_i q off he
      obtain ⟨cs, hcs, h⟩ := Option.bind_eq_some_iff.1 h
      have hr := hE.get b
      rw [he] at hr
      simp only [resSem]
      generalize a.tmps.getD b undef = u at hr ⊢
      cases hr with
      | ptr hgb =>
        rename_i mm
        obtain ⟨m, c, T, h1, h2, h3, h4, h5⟩ := (hI.box q cs hcs).ex
        obtain rfl : m = mm := by rw [h1] at hgb; exact Option.some.inj hgb
        obtain ⟨v, hv, hrel⟩ := load_run (P := P) (t := t) (m := m) (q := 0) h4 (fun k v hk => by
          rw [cell_block h3, Nat.zero_add]; simpa using hk) h
        rw [Nat.zero_add] at hv
        exact ⟨v, by simp [asAddr, hv], hrel⟩
    · cases h
theorem aResults_run {G : Gh} {w : World} {a : Act} (hI : Inv w0 G σ w) (hE : RelE G w E a) : ∀ (rs : List ResultVar) (xs : List AV), aResults P E σ rs = some xs →
    ∃ vs, (rs.mapM (resSem a.tmps)).run P w = .ok vs w ∧ RelL G w xs vs
  | [], xs, h => by simp only [aResults, Option.some.injEq] at h; subst h; exact ⟨[], by simp, .nil⟩
  | r :: rs, xs, h => by
    simp only [aResults, Option.bind_eq_some_iff, Option.map_eq_some_iff] at h
    obtain ⟨x, hx, ys, hy, rfl⟩ := h
    obtain ⟨v, hv, hrel⟩ := aResult_run hI hE hx
    obtain ⟨vs, hvs, hrels⟩ := aResults_run hI hE rs ys hy
    exact ⟨v :: vs, by rw [List.mapM_cons, Sem.run_bind, hv, Result.andThen_ok, Sem.run_bind, hvs]; rfl, .cons hrel hrels⟩
theorem results_rel {G : Gh} {w : World} {a : Act} {fn : Func} {xs : List AV} (hI : Inv w0 G σ w) (hE : RelE G w E a) (h : aResults P E σ fn.results.toList = some xs) : ∃ v, (results fn a.tmps).run P w = .ok v w ∧ Rel G w (aTuple xs) v := by
  obtain ⟨vs, hvs, hrel⟩ := aResults_run hI hE _ _ h
  have hm : (fn.results.mapM (resSem a.tmps)).run P w = .ok vs.toArray w := by
    rw [← Array.toArray_toList (xs := fn.results), List.mapM_toArray, Sem.run_map, hvs]; rfl
  have hr : (results fn a.tmps).run P w = .ok (if h : vs.toArray.size = 1 then vs.toArray[0] else .tuple vs.toArray) w := by
    rw [results_eq, Sem.run_bind, hm]; rfl
  refine ⟨_, hr, ?_⟩
  cases hrel with
  | nil => exact .tup .nil
  | cons k1 t =>
    cases t with
    | nil => exact k1
    | cons k2 t => exact .tup (.cons k1 (.cons k2 t))
def Post (P : Program) (rs : List ResultVar) (K : AV → St → Prop) (e : Exit) (E : AEnv) (σ : St) : Prop :=
  (e = .normal ∨ e = .ret) ∧ ∃ xs r σ'', aResults P E σ rs = some xs ∧ Weak r (aTuple xs) ∧ St.Le σ'' σ ∧ K r σ''
theorem CallW.body {f : FuncId} {fn : Func} {c : Code} {m : Nat} {args : List AV} {K : AV → St → Prop} (hf : P.funcs[f]? = some fn) (hb : fn.body = some c) (hm : fn.ntmps = m) (ha : args.length ≤ m)
    (h : W P w0 m c (Post P fn.results.toList K) (fun t => args.getD t .und) σ) : CallW P w0 f args σ K := ⟨fun G w vs hI hr => by
  subst hm
  have hlen := hr.length
  have hE0 : RelE G w (fun t => args.getD t .und) { tmps := vs.toArray ++ Array.replicate (fn.ntmps - vs.toArray.size) undef, defers := [] } := ⟨fun t => by
    by_cases ht : t < args.length
    · obtain ⟨v, hv, hrel⟩ := hr.get (i := t) (x := args[t]) (by simp [ht])
      have h1 : args.getD t .und = args[t] := by simp [List.getD, ht]
      have h2 : (vs.toArray ++ Array.replicate (fn.ntmps - vs.toArray.size) undef).getD t undef = v := by
        simp only [Array.getD_eq_getD_getElem?]
        rw [Array.getElem?_append_left (by simp [hlen]; omega)]
        simp [hv]
      rw [h1, h2]; exact hrel
    · have h1 : args.getD t .und = .und := by simp [List.getD, List.getElem?_eq_none (Nat.le_of_not_lt ht)]
      rw [h1]; exact .und _⟩
  refine callsIn_wide (n := 0).1 (callsIn_of_wp_marks hf hb trivial ?_)
  have hgo := h.go G w { tmps := vs.toArray ++ Array.replicate (fn.ntmps - vs.toArray.size) undef, defers := [] } hI hE0 (by simp [hlen]; omega) ⟨none, w.heap.size⟩ .nil
  · rw [wideAt_none] at hgo
    refine wpIn_mono hgo ?_
    rintro e a' w' ⟨E', σ', G', ⟨he, xs, r, σ'', hx, hw, hle, hk⟩, hI', hE', hn', hd', ex⟩
    obtain ⟨Ds, hD1, hD2, hD3⟩ := hd'.marks
    have : LeavesInM Fence.wide 0 P fn a'.tmps (fun e w' => ∃ v r σ' G', e = .returned v ∧ K r σ' ∧ Inv w0 G' σ' w' ∧ Ext G w G' w' ∧ Rel G' w' r v) a'.defers .returning w' := by
      rw [hD1]
      have hsz := hI.size
      have key : ∀ (Ds : List Nat) (w1 : World), Inv w0 G' σ' w1 → (∀ t, Rel G' w1 (E' t) (a'.tmps.getD t undef)) → Ext G w G' w1 → Ds.Nodup → (∀ D ∈ Ds, w.heap.size ≤ D ∧ w1.heap[D]? = some (.deferred (some []))) →
          LeavesInM Fence.wide 0 P fn a'.tmps (fun e w' => ∃ v r σ' G', e = .returned v ∧ K r σ' ∧ Inv w0 G' σ' w' ∧ Ext G w G' w' ∧ Rel G' w' r v) (Ds.map markOf) .returning w1 := by
        intro Ds
        induction Ds with
        | nil =>
          intro w1 hI1 hE1 ex1 _ _
          obtain ⟨v, hv, hrel⟩ := results_rel (fn := fn) (a := a') hI1 ⟨hE1⟩ hx
          exact ⟨v, hv, v, r, σ'', G', rfl, hk, hI1.drop hle, ex1, hw.go _ _ _ hrel⟩
        | cons D Ds ih =>
          intro w1 hI1 hE1 ex1 nd hD
          rw [List.nodup_cons] at nd
          obtain ⟨h1, h3⟩ := hD D (by simp)
          have h2 : G'.base ≤ D := by rw [ex1.base]; omega
          have e0 := putObj_ext0 (G := G') (o' := .deferred none) h3 rfl rfl
          have ex' : Ext G w G' (w1.putObj D (.deferred none)) := by
            refine ⟨ex1.base, ex1.box, ex1.tok, ex1.imm, fun b q v hs hc => e0.keep b q v (ex1.still hs) (ex1.keep b q v hs hc), ⟨by simpa using ex1.sol.size, fun i ds e => ?_, fun i r e => ?_⟩⟩
            · have := lt_of_get e
              rw [World.putObj_heap_other (by omega)]; exact ex1.sol.dfr i ds e
            · have := lt_of_get e
              obtain ⟨r', hr⟩ := ex1.sol.lp i r e
              exact ⟨r', by rw [World.putObj_heap_other (by omega)]; exact hr⟩
          have hI' : Inv w0 G' σ' (w1.putObj D (.deferred none)) := hI1.putOb h2 h3 rfl rfl rfl rfl fun i q hi => .inl ⟨by
            rintro rfl
            cases hI1.obj i q hi with
            | loop _ here _ => (rw [h3] at here; cases here)
            | map _ here _ _ _ _ => (rw [h3] at here; cases here)
            | str _ here => (rw [h3] at here; cases here), hi⟩
          refine ⟨by simp, .inl ⟨D, _, rfl, run_takeDeferred h3, ih _ hI' (fun t => (hE1 t).ext0 e0) ex' nd.2 fun D' hD' => ?_⟩⟩
          obtain ⟨g1, g3⟩ := hD D' (by simp [hD'])
          exact ⟨g1, by rw [World.putObj_heap_other (by rintro rfl; exact nd.1 hD')]; exact g3⟩
      exact key Ds w' hI' hE'.get ex hD2 hD3
    rcases he with rfl | rfl
    · exact this
    · exact this⟩
end
end Go.Al
end
section
set_option linter.unusedVariables false
set_option linter.unusedSimpArgs false
namespace Go.Al
open Go.RowKit

theorem toList_loop (l : List UInt8) : ∀ (k i : Nat) (r : List UInt8), l.length - i = k → i ≤ l.length → ByteArray.toList.loop ⟨l.toArray⟩ i r = r.reverse ++ l.drop i
  | 0, i, r, hk, hi => by
    rw [ByteArray.toList.loop, if_neg (by simp [ByteArray.size]; omega), List.drop_of_length_le (by omega), List.append_nil]
  | k + 1, i, r, hk, hi => by
    rw [ByteArray.toList.loop, if_pos (by simp [ByteArray.size]; omega), toList_loop l k (i + 1) _ (by omega) (by omega)]
    have : (⟨l.toArray⟩ : ByteArray).get! i = l[i]'(by omega) := by
      simp [ByteArray.get!, show i < l.length by omega]
    rw [this, List.reverse_cons, List.append_assoc]
    congr 1
    rw [List.singleton_append, ← List.drop_eq_getElem_cons]
@[simp] theorem mk_toList (l : List UInt8) : (⟨l.toArray⟩ : ByteArray).toList = l := by
  unfold ByteArray.toList
  rw [toList_loop l l.length 0 [] (by simp) (by simp)]
  simp

def aIntOp (op : BinOp) (k : IntKind) (a : Int) (k' : IntKind) (b : Int) : Option AV :=
  match op with
  | .shl => if b < 0 then none else some (.int k (k.wrap (a * 2 ^ (min b.toNat k.bits))))
  | .shr => if b < 0 then none else some (.int k (a.fdiv (2 ^ (min b.toNat k.bits))))
  | .add => if k = k' then some (.int k (k.wrap (a + b))) else none
  | .sub => if k = k' then some (.int k (k.wrap (a - b))) else none
  | .mul => if k = k' then some (.int k (k.wrap (a * b))) else none
  | .quo => if k = k' ∧ b ≠ 0 then some (.int k (k.wrap (a.tdiv b))) else none
  | .rem => if k = k' ∧ b ≠ 0 then some (.int k (a.tmod b)) else none
  | .and => if k = k' then some (.int k (k.wrap ((BitVec.ofInt k.bits a &&& BitVec.ofInt k.bits b).toNat))) else none
  | .or => if k = k' then some (.int k (k.wrap ((BitVec.ofInt k.bits a ||| BitVec.ofInt k.bits b).toNat))) else none
  | .xor => if k = k' then some (.int k (k.wrap ((BitVec.ofInt k.bits a ^^^ BitVec.ofInt k.bits b).toNat))) else none
  | .andNot => if k = k' then some (.int k (k.wrap ((BitVec.ofInt k.bits a &&& ~~~BitVec.ofInt k.bits b).toNat))) else none
  | .eql => if k = k' then some (.bool (decide (a = b))) else none
  | .neq => if k = k' then some (.bool (!decide (a = b))) else none
  | .lss => if k = k' then some (.bool (decide (a < b))) else none
  | .leq => if k = k' then some (.bool (decide (a ≤ b))) else none
  | .gtr => if k = k' then some (.bool (decide (b < a))) else none
  | .geq => if k = k' then some (.bool (decide (b ≤ a))) else none
def ltS : List UInt8 → List UInt8 → Bool := Op.bytesLess
def aStrOp (op : BinOp) (a b : List UInt8) : Option AV :=
  match op with
  | .add => if ((a.length + b.length : Nat) : Int) ≤ 9223372036854775807 then some (.str (a ++ b)) else none
  | .eql => some (.bool (decide (a = b)))
  | .neq => some (.bool (!decide (a = b)))
  | .lss => some (.bool (ltS a b))
  | .leq => some (.bool (ltS a b || decide (a = b)))
  | .gtr => some (.bool (!(ltS a b || decide (a = b))))
  | .geq => some (.bool (!ltS a b))
  | _ => none
def aNil : AV → Option Bool
  | .nils | .nilp | .nilfn | .nilifc => some true
  | .slc sz (_ :: _) _ => if sz = 0 then none else some false
  | .ptr .. | .vp _ | .fn .. | .ifc .. => some false
  | _ => none
def aEqOp (op : BinOp) (b : Bool) : Option AV :=
  match op with
  | .eql => some (.bool b)
  | .neq => some (.bool (!b))
  | _ => none
def isBoolD : TypeDesc → Bool
  | .bool => true
  | _ => false
def nilD : TypeDesc → AV → Bool
  | .pointer _, .nilp => true
  | .slice _, .nils => true
  | .func _ _ _, .nilfn => true
  | .interface _, .nilifc => true
  | _, _ => false
def nilFit : TypeDesc → AV → Bool
  | .pointer _, .nilp | .pointer _, .ptr .. | .pointer _, .vp _ => true
  | .slice _, .nils | .slice _, .slc .. => true
  | .func _ _ _, .nilfn | .func _ _ _, .fn .. => true
  | .interface _, .nilifc | .interface _, .ifc .. => true
  | _, _ => false
def isConstB : Operand → Bool
  | .const _ => true
  | _ => false
def aBin (P : Program) (op : BinOp) (t : TypeId) (oy : Operand) (x y : AV) : Option AV :=
  match x, y with
  | .int k a, .int k' b => aIntOp op k a k' b
  | .str a, .str b => aStrOp op a b
  | .bool a, .bool b => if ((P.underlying t).map isBoolD) = some true then aEqOp op (a == b) else none
  | x, y => if ((P.underlying t).map fun d => nilD d y && nilFit d x) = some true ∧ isConstB oy = true then (aNil x).bind (aEqOp op) else none
section
variable {P : Program} {E : AEnv} {o : Oper} {t : TypeId}
theorem aIntOp_ok {op : BinOp} {k k' : IntKind} {a b : Int} {r : AV} (h : aIntOp op k a k' b = some r) (t : TypeId) (ox oy : Operand) : aBinV P op t ox oy (.int k a) (.int k' b) = some r := by
  unfold aBinV
  have hg : ∀ (s : Sem Value), (do eqGuard op t ox oy (.int k a) (.int k' b); s : Sem Value) = s := fun s => by
    unfold eqGuard
    split <;> rfl
  rw [hg]
  cases op <;> simp only [aIntOp] at h
  all_goals first
    | (split at h
       · cases h
       · rename_i hb; cases h; simp [binOp, Op.shift, hb, semVal, Pure.pure, aConst, aCell])
    | (split at h
       · rename_i hb
         cases h
         first
           | (subst hb; simp [binOp, Op.intArith, Op.intBits, Op.intCmp, semVal, Pure.pure, aConst, aCell]; done)
           | (obtain ⟨rfl, hb⟩ := hb; simp [binOp, Op.intDiv, hb, semVal, Pure.pure, aConst, aCell]; done)
           | (subst hb; simp [binOp, Op.intCmp, semVal, Pure.pure, aConst, aCell]; rfl)
       · cases h)
theorem aStrOp_ok {op : BinOp} {a b : List UInt8} {r : AV} (h : aStrOp op a b = some r) (t : TypeId) (ox oy : Operand) : aBinV P op t ox oy (.string ⟨a.toArray⟩) (.string ⟨b.toArray⟩) = some r := by
  unfold aBinV
  have hg : ∀ (s : Sem Value), (do eqGuard op t ox oy (.string ⟨a.toArray⟩) (.string ⟨b.toArray⟩); s : Sem Value) = s := fun s => by
    unfold eqGuard
    split <;> rfl
  rw [hg]
  have hmax : IntKind.i64.max = 9223372036854775807 := by decide
  have happ : (⟨a.toArray⟩ : ByteArray) ++ ⟨b.toArray⟩ = ⟨(a ++ b).toArray⟩ := by apply ByteArray.ext; simp
  have hsz : ∀ l : List UInt8, (⟨l.toArray⟩ : ByteArray).size = l.length := fun l => by simp [ByteArray.size]
  have hbe : (a == b) = decide (a = b) := by by_cases e : a = b <;> simp [e]
  cases op <;> simp only [aStrOp] at h <;> first
    | (cases h; simp only [binOp, Op.stringOp, mk_toList, hbe, ltS]; simp [semVal, Pure.pure, aConst, aCell]; done)
    | (split at h
       · rename_i hb
         cases h
         have hb' : ¬ ((a.length + b.length : Nat) : Int) > 9223372036854775807 := by omega
         simp only [binOp, Op.stringOp, hsz, hmax, if_neg hb', happ]
         simp [semVal, Pure.pure, aConst, aCell]
       · cases h)
    | cases h
theorem equalIn_bool (h : P.underlying t = some .bool) (a b : Bool) (d : Nat) : semVal P (Op.equalIn (d + 1) t (.bool a) (.bool b)) = some (a == b) := by
  simp [Op.equalIn, underlying, program, Bind.bind, Sem.bind, semVal, h, Pure.pure]
theorem equal_bool (h : P.underlying t = some .bool) (a b : Bool) : semVal P (Op.equal t (.bool a) (.bool b)) = some (a == b) := equalIn_bool h a b 9999
theorem isBool_spec {d : TypeDesc} (h : isBoolD d = true) : d = .bool := by cases d <;> simp [isBoolD] at h <;> rfl
theorem aBinB_ok {op : BinOp} {t : TypeId} {a b : Bool} {r : AV} (ht : ((P.underlying t).map isBoolD) = some true) (h : aEqOp op (a == b) = some r) (ox oy : Operand) : aBinV P op t ox oy (.bool a) (.bool b) = some r := by
  obtain ⟨d, hd, hb⟩ := Option.map_eq_some_iff.1 ht
  rw [isBool_spec hb] at hd
  have he := equal_bool hd a b
  unfold aBinV
  have hg : ∀ (s : Sem Value), (do eqGuard op t ox oy (.bool a) (.bool b); s : Sem Value) = s := fun s => by
    unfold eqGuard
    split <;> rfl
  rw [hg]
  have key : ∀ f : Bool → Value, semVal P (Op.equal t (.bool a) (.bool b) >>= fun r => Pure.pure (f r)) = some (f (a == b)) := fun f => by
    have : ∀ (s : Sem Bool) (c : Bool), semVal P s = some c → semVal P (s >>= fun r => Pure.pure (f r)) = some (f c) := by
      intro s
      induction s with
      | pure x => intro c h; simp only [semVal, Option.some.injEq] at h; subst h; rfl
      | program k ih => intro c h; simp only [semVal] at h; exact ih P c h
      | mark m k ih => intro c h; simp only [semVal] at h; exact ih c h
      | _ => intro c h; simp [semVal] at h
    exact this _ _ he
  cases op <;> simp only [aEqOp] at h <;> cases h
  · simp only [binOp]
    rw [show (do Pure.pure (Value.bool (← Op.equal t (.bool a) (.bool b))) : Sem Value) = (Op.equal t (.bool a) (.bool b) >>= fun r => Pure.pure (.bool r)) from rfl, key]
    simp [aConst, aCell]
  · simp only [binOp]
    rw [show (do Pure.pure (Value.bool (!(← Op.equal t (.bool a) (.bool b)))) : Sem Value) = (Op.equal t (.bool a) (.bool b) >>= fun r => Pure.pure (.bool (!r))) from rfl, key]
    simp [aConst, aCell]
theorem equalIn_nil {d : TypeDesc} {G : Gh} {w : World} {x y : AV} {v : Value} {b : Bool} (hd : P.underlying t = some d) (hn : nilD d y = true) (hx : Rel G w x v) (hb : aNil x = some b) {u : Value} (hy : y.val = some u)
    (hk : (∃ e, d = .pointer e ∧ ∃ a, v = .pointer a) ∨ (∃ e, d = .slice e ∧ ∃ a n c, v = .slice a n c) ∨ (∃ p r q, d = .func p r q ∧ (v = .nilFunc ∨ ∃ f a c, v = .func f a c)) ∨ (∃ m, d = .interface m ∧ (v = .nilIface ∨ ∃ t z, v = .iface t z))) (k : Nat) :
    (Op.equalIn (k + 1) t v u).run P w = .ok b w := by
  rcases hk with ⟨e, rfl, a, rfl⟩ | ⟨e, rfl, a, n, c, rfl⟩ | ⟨p, r, q, rfl, hv⟩ | ⟨m, rfl, hv⟩
  · cases y <;> simp only [nilD, Bool.false_eq_true] at hn
    simp only [AV.val, Option.some.injEq] at hy; subst hy
    cases a with
    | none =>
      cases hx <;> simp only [aNil, Option.some.injEq, reduceCtorEq] at hb
      subst hb; simp [Op.equalIn, run_underlying hd]
    | some a =>
      cases hx <;> simp only [aNil, Option.some.injEq, reduceCtorEq] at hb <;> subst hb <;> simp [Op.equalIn, run_underlying hd]
  · cases y <;> simp only [nilD, Bool.false_eq_true] at hn
    simp only [AV.val, Option.some.injEq] at hy; subst hy
    cases hx with
    | und => simp [aNil] at hb
    | nils => simp only [aNil, Option.some.injEq] at hb; subst hb; simp [Op.equalIn, run_underlying hd]
    | msl hgb hc hm => simp [aNil] at hb
    | slc h1 h2 h3 h4 h5 h6 h7 =>
      rename_i sz xs tk vs
      cases xs with
      | nil => simp [aNil] at hb
      | cons x xs =>
        simp only [aNil] at hb
        split at hb
        · cases hb
        · rename_i hsz
          cases hb
          have hx := (h4 x (by simp)).1
          have : a ≠ none := by
            rintro rfl
            have hl := h5.length
            rw [List.flatMap_cons, List.length_append, hx] at hl
            cases vs with
            | nil => simp at hl; omega
            | cons v vs => obtain ⟨b, q, e, _⟩ := h6 0 v rfl; cases e
          cases a with
          | none => exact absurd rfl this
          | some a => simp [Op.equalIn, run_underlying hd]
  · cases y <;> simp only [nilD, Bool.false_eq_true] at hn
    simp only [AV.val, Option.some.injEq] at hy; subst hy
    rcases hv with rfl | ⟨f, a, c, rfl⟩
    · cases hx <;> simp only [aNil, Option.some.injEq, reduceCtorEq] at hb
      subst hb; simp [Op.equalIn, run_underlying hd]
    · cases hx <;> simp only [aNil, Option.some.injEq, reduceCtorEq] at hb
      subst hb; simp [Op.equalIn, run_underlying hd]
  · cases y <;> simp only [nilD, Bool.false_eq_true] at hn
    simp only [AV.val, Option.some.injEq] at hy; subst hy
    rcases hv with rfl | ⟨f, a, rfl⟩
    · cases hx <;> simp only [aNil, Option.some.injEq, reduceCtorEq] at hb
      subst hb; simp [Op.equalIn, run_underlying hd]
    · cases hx <;> simp only [aNil, Option.some.injEq, reduceCtorEq] at hb
      subst hb; simp [Op.equalIn, run_underlying hd]
end
end Go.Al
end
section
set_option linter.unusedVariables false
set_option linter.unusedSimpArgs false
namespace Go.Al
open Go.RowKit

section
variable {P : Program} {E : AEnv} {o : Oper} {t : TypeId}
theorem run_eqnil {op : BinOp} {x y : AV} {ox oy : Operand} {r : AV} {G : Gh} {w : World} {v u : Value} (hf : ((P.underlying t).map fun d => nilD d y && nilFit d x) = some true) (hc : isConstB oy = true) (h : (aNil x).bind (aEqOp op) = some r)
    (hx : Rel G w x v) (hy : Rel G w y u) : ∃ z, (do eqGuard op t ox oy v u; binOp op t v u : Sem Value).run P w = .ok z w ∧ Rel G w r z := by
  obtain ⟨d, hd, hb⟩ := Option.map_eq_some_iff.1 hf
  obtain ⟨b, hnb, hop⟩ := Option.bind_eq_some_iff.1 h
  simp only [Bool.and_eq_true] at hb
  obtain ⟨hn, hfit⟩ := hb
  have hyv : ∃ u', y.val = some u' := by cases d <;> cases y <;> simp [nilD] at hn <;> exact ⟨_, rfl⟩
  obtain ⟨u', hyu⟩ := hyv
  have hu := hy.val hyu
  subst hu
  have hk : (∃ e, d = .pointer e ∧ ∃ a, v = .pointer a) ∨ (∃ e, d = .slice e ∧ ∃ a n c, v = .slice a n c) ∨ (∃ p r q, d = .func p r q ∧ (v = .nilFunc ∨ ∃ f a c, v = .func f a c)) ∨ (∃ m, d = .interface m ∧ (v = .nilIface ∨ ∃ t z, v = .iface t z)) := by
    cases d <;> cases x <;> simp only [nilFit, Bool.false_eq_true] at hfit <;> cases hx <;> simp
  have heq : (Op.equal t v u).run P w = .ok b w := equalIn_nil hd hn hx hnb hyu hk 9999
  have hg : (eqGuard op t ox oy v u).run P w = .ok () w := by
    have hop2 : op = .eql ∨ op = .neq := by cases op <;> simp [aEqOp] at hop <;> simp
    cases oy <;> simp only [isConstB, Bool.false_eq_true] at hc
    rcases hk with ⟨e, rfl, a, rfl⟩ | ⟨e, rfl, a, n, c, rfl⟩ | ⟨p, r, q, rfl, hv⟩ | ⟨m, rfl, hv⟩
    · rcases hop2 with rfl | rfl <;> simp [eqGuard]
    · rcases hop2 with rfl | rfl <;> simp [eqGuard]
    · rcases hv with rfl | ⟨f, a, c, rfl⟩ <;> rcases hop2 with rfl | rfl <;> simp [eqGuard]
    · cases y <;> simp only [nilD, Bool.false_eq_true] at hn
      simp only [AV.val, Option.some.injEq] at hyu; subst hyu
      rcases hv with rfl | ⟨f, a, rfl⟩ <;> rcases hop2 with rfl | rfl <;> simp [eqGuard]
  have hbin : ∀ b', op = .eql ∧ b' = b ∨ op = .neq ∧ b' = !b → (binOp op t v u).run P w = .ok (.bool b') w := by
    intro b' h
    have key : (binOp .eql t v u).run P w = .ok (.bool b) w ∧ (binOp .neq t v u).run P w = .ok (.bool (!b)) w := by
      rcases hk with ⟨e, rfl, a, rfl⟩ | ⟨e, rfl, a, n, c, rfl⟩ | ⟨p, r, q, rfl, hv⟩ | ⟨m, rfl, hv⟩
      · simp [binOp, heq]
      · simp [binOp, heq]
      · rcases hv with rfl | ⟨f, a, c, rfl⟩ <;> simp [binOp, heq]
      · rcases hv with rfl | ⟨f, a, rfl⟩ <;> simp [binOp, heq]
    rcases h with ⟨rfl, rfl⟩ | ⟨rfl, rfl⟩
    · exact key.1
    · exact key.2
  cases op <;> simp only [aEqOp, reduceCtorEq, Option.some.injEq] at hop
  · subst hop
    exact ⟨.bool b, by rw [Sem.run_bind, hg, Result.andThen_ok]; exact hbin b (.inl ⟨rfl, rfl⟩), .bool b⟩
  · subst hop
    exact ⟨.bool (!b), by rw [Sem.run_bind, hg, Result.andThen_ok]; exact hbin _ (.inr ⟨rfl, rfl⟩), .bool _⟩
theorem ok_binOp (op : BinOp) (t yt : TypeId) (x y : Operand) (ho : o.op = .binOp op t x y yt) {r : AV} (h : aBin P op t y (aeval E x) (aeval E y) = some r) : OpOk P o E r := by
  unfold aBin at h
  split at h
  · rename_i k a k' b hx hy
    exact ok_bin op t yt x y ho (by simp [aKnown, hx, AV.val]) (by simp [aKnown, hy, AV.val]) (aIntOp_ok h t x y)
  · rename_i a b hx hy
    exact ok_bin op t yt x y ho (by simp [aKnown, hx, AV.val]) (by simp [aKnown, hy, AV.val]) (aStrOp_ok h t x y)
  · rename_i a b hx hy
    split at h
    · rename_i ht
      exact ok_bin op t yt x y ho (by simp [aKnown, hx, AV.val]) (by simp [aKnown, hy, AV.val]) (aBinB_ok ht h x y)
    · cases h
  · split at h
    · rename_i hc
      exact .plain fun G w a hE => by
        have hx := hE.get x (by simp [ho, Op.operands])
        have hy := hE.get y (by simp [ho, Op.operands])
        obtain ⟨z, hz, hr⟩ := run_eqnil (op := op) (ox := x) (oy := y) hc.1 hc.2 h hx hy
        refine ⟨z, ?_, hr⟩
        simp only [execOp, ho]
        rw [Sem.run_bind, hz]; rfl
    · cases h

def aConv (P : Program) (s d : TypeId) (x : AV) : Option AV :=
  match x with
  | .slc .. | .nils => aBytesStr P s d x
  | .str l => (aStrBytes P s d (.str l)).or (aConvV P s d (.string ⟨l.toArray⟩))
  | .int k n => aConvV P s d (.int k n)
  | _ => none
theorem ok_convAll (s d : TypeId) (x : Operand) (ho : o.op = .convert s d x) {r : AV} (h : aConv P s d (aeval E x) = some r) : OpOk P o E r := by
  unfold aConv at h
  split at h
  · exact ok_bytesStr s d x ho h
  · exact ok_bytesStr s d x ho h
  · rename_i l hl
    rw [Option.or_eq_some_iff] at h
    rcases h with h | ⟨_, h⟩
    · exact ok_strBytes s d x ho (by rw [hl]; exact h)
    · exact ok_conv s d x ho (by simp [aKnown, hl, AV.val]) h
  · rename_i k n hl
    exact ok_conv s d x ho (by simp [aKnown, hl, AV.val]) h
  · cases h

def aMM (b : Builtin) : List AV → Option AV
  | [.int .i64 x, .int .i64 y] => match b with
    | .min => some (.int .i64 (if y < x then y else x))
    | .max => some (.int .i64 (if y > x then y else x))
    | _ => none
  | _ => none
def aBuiltin (P : Program) (E : AEnv) (b : Builtin) (args : List Operand) (ts : List TypeId) : Option AV :=
  match b, args, ts with
  | .len, [x], [t] => aLen P t (aeval E x)
  | .min, args, _ => aMM .min (args.map (aeval E))
  | .max, args, _ => aMM .max (args.map (aeval E))
  | _, _, _ => none
theorem ok_mm {b : Builtin} (args : Array Operand) (ts : Array TypeId) (ho : o.op = .call { callee := .builtin b, args, argTypes := ts }) {r : AV} (h : aMM b (args.toList.map (aeval E)) = some r) : OpOk P o E r := by
  unfold aMM at h
  split at h
  · rename_i x y hl
    refine ok_builtinV b args ts ho (vs := [.int .i64 x, .int .i64 y]) (by rw [hl]; rfl) ?_
    cases b <;> simp only [reduceCtorEq] at h <;> cases h
    · simp only [aBuiltinV, builtin]
      simp [Builtin.max_, Builtin.max2, Bind.bind, Sem.bind, semVal, Pure.pure, aConst, aCell, List.foldlM]
    · simp only [aBuiltinV, builtin]
      simp [Builtin.min_, Builtin.min2, Bind.bind, Sem.bind, semVal, Pure.pure, aConst, aCell, List.foldlM]
  · cases h

def aop (P : Program) (E : AEnv) : Op → Option AV
  | .move x | .assign x => some (aeval E x)
  | .pick c x y => aPick (aeval E c) (aeval E x) (aeval E y)
  | .nilCheck x => aNilCheck (aeval E x)
  | .binOp op t x y _ => aBin P op t y (aeval E x) (aeval E y)
  | .unOp op _ x => (aeval E x).val.bind (aUnV P op)
  | .convert s d x => aConv P s d (aeval E x)
  | .field t x f => aField P t (aeval E x) f
  | .fieldAddr t x f => aFieldAddr P t (aeval E x) f
  | .indexAddr t x i => aIndexAddr P t (aeval E x) (aeval E i)
  | .index t x i => aIndex P t (aeval E x) (aeval E i)
  | .load t x => aLoadVp P t (aeval E x)
  | .extract x i => aExtract (aeval E x) i
  | .makeInterface t x => aMakeIface P t (aeval E x)
  | .makeFunc f first cap => some (.fn f (first.toList.map (aeval E)) (cap.toList.map (aeval E)))
  | .build t parts => aBuild P t (parts.toList.map fun p => (p.1, aeval E p.2))
  | .buildSlice t len parts => aBuildSlice P t len (parts.toList.map fun p => (p.1, aeval E p.2))
  | .slice t x lo hi none => aSlice P t (aeval E x) (lo.map (aeval E)) (hi.map (aeval E))
  | .call ⟨.builtin b, args, ts⟩ => aBuiltin P E b args.toList ts.toList
  | _ => none
theorem aop_ok {r : AV} (h : aop P E o.op = some r) : OpOk P o E r := by
  generalize ho : o.op = op at h
  unfold aop at h
  split at h
  · rename_i x; cases h; exact ok_move x ho
  · rename_i x; cases h; exact ok_assign x ho
  · exact ok_pick _ _ _ ho h
  · exact ok_nilCheck _ ho h
  · exact ok_binOp _ _ _ _ _ ho h
  · rename_i op t x
    obtain ⟨v, hv, h⟩ := Option.bind_eq_some_iff.1 h
    exact ok_un op t x ho hv h
  · exact ok_convAll _ _ _ ho h
  · exact ok_field _ _ _ ho h
  · exact ok_fieldAddr _ _ _ ho h
  · exact ok_indexAddr _ _ _ ho h
  · exact ok_index _ _ _ ho h
  · exact ok_loadVp _ _ ho h
  · exact ok_extract _ _ ho h
  · exact ok_makeIface _ _ ho h
  · rename_i f first cap; cases h; exact ok_makeFunc f first cap ho
  · exact ok_build _ _ ho h
  · exact ok_buildSlice _ _ _ ho h
  · exact ok_slice _ _ _ _ ho h
  · rename_i b args ts
    unfold aBuiltin at h
    split at h
    · rename_i x t ha ht
      have e1 : args = #[x] := by apply Array.ext'; simpa using ha
      have e2 : ts = #[t] := by apply Array.ext'; simpa using ht
      subst e1; subst e2
      exact ok_len x t ho h
    · exact ok_mm args ts ho h
    · exact ok_mm args ts ho h
    · cases h
  · cases h

def aWantL (ds : List (Option Tmp)) (E : AEnv) (o : Oper) : Option Bool :=
  match o.guard with
  | none => some true
  | some (j, want) => match ds.getD j none with
    | some d => match E d with
      | .bool b => some (b == want)
      | .tup [] => some false
      | _ => none
    | none => none
theorem want_eq (ops : List Oper) (E : AEnv) (o : Oper) : aWantL (ops.map (·.dst)) E o = aWant ops.toArray E o := by
  unfold aWantL aWant
  have : ∀ j, (ops.map (·.dst)).getD j none = (ops.toArray[j]?).bind (·.dst) := fun j => by
    simp only [List.getD_eq_getElem?_getD, List.getElem?_map, List.getElem?_toArray]
    cases ops[j]? <;> rfl
  cases o.guard with
  | none => rfl
  | some p =>
    obtain ⟨j, want⟩ := p
    simp only [this]
    all_goals (cases (ops.toArray[j]?).bind (·.dst) <;> first | rfl | (simp only; split <;> rfl))
def RunsL (P : Program) (w0 : Base) (ds : List (Option Tmp)) (kind : Kd) (Q : AEnv → St → Prop) : Nat → List Oper → AEnv → St → Prop
  | _, [], E, σ => Q E σ
  | i, o :: rest, E, σ =>
    match aWantL ds E o with
    | some true => StepD P w0 o E σ (kind i) kind.held (fun r σ' => RunsL P w0 ds kind Q (i + 1) rest (upd E o.dst r) σ')
    | some false => RunsL P w0 ds kind Q (i + 1) rest (upd E o.dst (.tup [])) σ
    | none => False
theorem runsL_runs {w0 : Base} {os : List Oper} {kind : Kd} {Q : AEnv → St → Prop} : ∀ (l pre : List Oper) (E : AEnv) (σ : St), os = pre ++ l → RunsL P w0 (os.map (·.dst)) kind Q pre.length l E σ → Runs P w0 os.toArray kind Q (List.range' pre.length l.length) E σ
  | [], pre, E, σ, _, h => h
  | o :: l, pre, E, σ, he, h => by
    have ho : os.toArray[pre.length]? = some o := by rw [List.getElem?_toArray, he]; simp
    have hs : ∀ E σ, RunsL P w0 (os.map (·.dst)) kind Q (pre.length + 1) l E σ → Runs P w0 os.toArray kind Q (List.range' (pre.length + 1) l.length) E σ := fun E σ h => by
      have := runsL_runs (os := os) l (pre ++ [o]) E σ (by rw [he]; simp) (by simpa using h)
      simpa using this
    rw [List.length_cons, List.range'_succ]
    unfold RunsL at h
    rw [want_eq] at h
    unfold Runs
    rw [ho]
    simp only
    split at h
    · rename_i hw
      try simp only [hw]
      exact h.mono fun r s h => hs _ _ h
    · rename_i hw
      try simp only [hw]
      exact hs _ _ h
    · exact h.elim
theorem want_guard {ds : List (Option Tmp)} {o : Oper} {E : AEnv} {j d : Nat} {want b : Bool} (hg : o.guard = some (j, want)) (hd : ds.getD j none = some d) (hb : E d = .bool b) : aWantL ds E o = some (b == want) := by
  simp only [aWantL, hg, hd, hb]
theorem W.regionL {w0 : Base} {n : Nat} {id : Nat} {l : List Oper} {ds : List (Option Tmp)} {Q : Exit → AEnv → St → Prop} {E : AEnv} {σ : St} (hd : dstsOk n l.toArray = true) (hds : l.map (·.dst) = ds) (h : RunsL P w0 ds ⟨fun _ => 2, 0, none⟩ (fun E σ => Q .normal E σ) 0 l E σ) : W P w0 n (.region id l.toArray false) Q E σ := by
  refine .region hd ?_
  subst hds
  have := runsL_runs (P := P) (w0 := w0) (os := l) l [] E σ (by simp) h
  simpa [List.range_eq_range'] using this
structure Has (l : List (Nat × AV)) (E : AEnv) : Prop where
  go : ∀ t, Weak (env l t) (E t)
def weakAll : List (Nat × AV) → AEnv → Prop
  | [], _ => True
  | (k, x) :: l, E => Weak x (E k) ∧ weakAll l E
theorem weakAll_mem : ∀ {l : List (Nat × AV)} {E : AEnv}, weakAll l E → ∀ p ∈ l, Weak p.2 (E p.1)
  | [], _, _, p, hp => by simp at hp
  | (k, x) :: l, E, h, p, hp => by
    rcases List.mem_cons.1 hp with rfl | hp
    · exact h.1
    · exact weakAll_mem h.2 p hp
theorem Has.mk' {l : List (Nat × AV)} {E : AEnv} (h : weakAll l E) : Has l E := ⟨weak_env l E (weakAll_mem h)⟩
theorem W.has {w0 : Base} {n : Nat} {c : Code} {Q : Exit → AEnv → St → Prop} {E : AEnv} {σ : St} {l : List (Nat × AV)} (h : Has l E) (k : W P w0 n c Q (env l) σ) : W P w0 n c Q E σ := k.weaken h.go (.refl σ)
theorem env_at (k : Nat) (x : AV) (l : List (Nat × AV)) (t : Nat) : env ((k, x) :: l) t = if t = k then x else env l t := rfl
end
end Go.Al
end
section
set_option linter.unusedVariables false
set_option linter.unusedSimpArgs false
namespace Go.Al
open Go.RowKit

class TyU (P : Program) (t : TypeId) (d : outParam TypeDesc) : Prop where h : P.underlying t = some d
class TyA (P : Program) (t : TypeId) (b : outParam Bool) : Prop where h : ∃ d, P.underlying t = some d ∧ aggD d = b
class TyS (P : Program) (t : TypeId) (n : outParam Nat) : Prop where h : (P.info? t).map (·.size) = some n
class TyF (P : Program) (t f : Nat) (ft off n : outParam Nat) (agg : outParam Bool) : Prop where
  h : ∃ fs fd d, P.underlying t = some (.struct fs) ∧ fs[f]? = some fd ∧ fd.type = ft ∧ fd.offset = off ∧ (P.info? ft).map (·.size) = some n ∧ P.underlying ft = some d ∧ aggD d = agg
class OwnF (P : Program) (f : FuncId) : Prop where h : Own P f

structure Yields (P : Program) (E : AEnv) (op : Op) (r : AV) : Prop where h : aop P E op = some r
section
variable {P : Program} {E : AEnv}
theorem a_move {x : Operand} {v : AV} (h : aeval E x = v) : Yields P E (.move x) v := by refine ⟨?_⟩; subst h; rfl
theorem a_assign {x : Operand} {v : AV} (h : aeval E x = v) : Yields P E (.assign x) v := by refine ⟨?_⟩; subst h; rfl
theorem a_len_str {x : Operand} {t : TypeId} [hu : TyU P t .string] {l : List UInt8} (h : aeval E x = .str l) : Yields P E (.call ⟨.builtin .len, #[x], #[t]⟩) (.int .i64 l.length) := by
  refine ⟨?_⟩
  simp [aop, aBuiltin, aLen, hu.h, h]
theorem a_len_slc {x : Operand} {t e : TypeId} [hu : TyU P t (.slice e)] {sz : Nat} {xs : List AV} {tk : Tok} (h : aeval E x = .slc sz xs tk) : Yields P E (.call ⟨.builtin .len, #[x], #[t]⟩) (.int .i64 xs.length) := by
  refine ⟨?_⟩
  simp [aop, aBuiltin, aLen, hu.h, h]
theorem a_len_nils {x : Operand} {t e : TypeId} [hu : TyU P t (.slice e)] (h : aeval E x = .nils) : Yields P E (.call ⟨.builtin .len, #[x], #[t]⟩) (.int .i64 0) := by
  refine ⟨?_⟩
  simp [aop, aBuiltin, aLen, hu.h, h]
theorem a_fieldAddr1 {x : Operand} {t f ft off n : Nat} [hf : TyF P t f ft off n false] {cs : List AV} {c : AV} (h : aeval E x = .vp (.agg cs)) (hn : n ≠ 0) (hc : cs[off]? = some c) : Yields P E (.fieldAddr t x f) (.vp c) := by
  refine ⟨?_⟩
  obtain ⟨fs, fd, d, h1, h2, rfl, rfl, h5, h6, h7⟩ := hf.h
  simp [aop, aFieldAddr, h1, h2, h, aPart, h5, h6, h7, hc, hn]
theorem a_fieldAddrA {x : Operand} {t f ft off n : Nat} [hf : TyF P t f ft off n true] {cs : List AV} (h : aeval E x = .vp (.agg cs)) (hn : n ≠ 0) : Yields P E (.fieldAddr t x f) (.vp (.agg ((cs.drop off).take n))) := by
  refine ⟨?_⟩
  obtain ⟨fs, fd, d, h1, h2, rfl, rfl, h5, h6, h7⟩ := hf.h
  simp [aop, aFieldAddr, h1, h2, h, aPart, h5, h6, h7, hn]
theorem a_fieldAddrP {x : Operand} {t f ft off n b o : Nat} {ag : Bool} [hf : TyF P t f ft off n ag] (h : aeval E x = .ptr b o) (hn : n ≠ 0) : Yields P E (.fieldAddr t x f) (.ptr b (o + off)) := by
  refine ⟨?_⟩
  obtain ⟨fs, fd, d, h1, h2, rfl, rfl, h5, h6, h7⟩ := hf.h
  simp [aop, aFieldAddr, h1, h2, h, h5, hn]
theorem a_field1 {x : Operand} {t f ft off n : Nat} [hf : TyF P t f ft off n false] {cs : List AV} {c : AV} (h : aeval E x = .agg cs) (hc : cs[off]? = some c) : Yields P E (.field t x f) c := by
  refine ⟨?_⟩
  obtain ⟨fs, fd, d, h1, h2, rfl, rfl, h5, h6, h7⟩ := hf.h
  simp [aop, aField, h1, h2, h, aPart, h5, h6, h7, hc]
theorem a_fieldA {x : Operand} {t f ft off n : Nat} [hf : TyF P t f ft off n true] {cs : List AV} (h : aeval E x = .agg cs) : Yields P E (.field t x f) (.agg ((cs.drop off).take n)) := by
  refine ⟨?_⟩
  obtain ⟨fs, fd, d, h1, h2, rfl, rfl, h5, h6, h7⟩ := hf.h
  simp [aop, aField, h1, h2, h, aPart, h5, h6, h7]
theorem a_indexAddr {x i : Operand} {t e sz : Nat} [hu : TyU P t (.slice e)] [hs : TyS P e sz] {xs : List AV} {tk : Tok} {k : IntKind} {n : Int} {v : AV} (h : aeval E x = .slc sz xs tk) (hi : aeval E i = .int k n) (hz : 0 < sz) (h0 : 0 ≤ n) (hg : xs[n.toNat]? = some v) :
    Yields P E (.indexAddr t x i) (.vp v) := by
  refine ⟨?_⟩
  simp [aop, aIndexAddr, hu.h, hs.h, h, hi, hz, h0, hg]
theorem a_indexAddrM {x i : Operand} {t e sz : Nat} [hu : TyU P t (.slice e)] [hs : TyS P e sz] {b off m cp : Nat} {k : IntKind} {n : Int} (h : aeval E x = .msl b off m cp) (hi : aeval E i = .int k n) (h0 : 0 ≤ n ∧ n < m) :
    Yields P E (.indexAddr t x i) (.ptr b (off + n.toNat * sz)) := by
  refine ⟨?_⟩
  simp [aop, aIndexAddr, hu.h, hs.h, h, hi, h0]
theorem a_indexAddrR {x i : Operand} {t e sz len : Nat} [hu : TyU P t (.array len e)] [hs : TyS P e sz] {b off : Nat} {k : IntKind} {n : Int} (h : aeval E x = .ptr b off) (hi : aeval E i = .int k n) (h0 : 0 ≤ n ∧ n < len) :
    Yields P E (.indexAddr t x i) (.ptr b (off + n.toNat * sz)) := by
  refine ⟨?_⟩
  simp [aop, aIndexAddr, hu.h, hs.h, h, hi, h0]
theorem a_indexS {x i : Operand} {t : Nat} [hu : TyU P t .string] {l : List UInt8} {k : IntKind} {n : Int} {b : UInt8} (h : aeval E x = .str l) (hi : aeval E i = .int k n) (h0 : 0 ≤ n) (hg : l[n.toNat]? = some b) :
    Yields P E (.index t x i) (.int .u8 b.toNat) := by
  refine ⟨?_⟩
  simp [aop, aIndex, hu.h, h, hi, h0, hg]
theorem a_binI {x y : Operand} {t yt : TypeId} {op : BinOp} {k k' : IntKind} {a b : Int} {r : AV} (hx : aeval E x = .int k a) (hy : aeval E y = .int k' b) (h : aIntOp op k a k' b = some r) : Yields P E (.binOp op t x y yt) r := by
  refine ⟨?_⟩
  simp [aop, aBin, hx, hy, h]
theorem a_addS {x y : Operand} {t yt : TypeId} {a b : List UInt8} (hx : aeval E x = .str a) (hy : aeval E y = .str b) (h : a.length + b.length ≤ 9223372036854775807) : Yields P E (.binOp .add t x y yt) (.str (a ++ b)) := by
  refine ⟨?_⟩
  have h' : ((a.length + b.length : Nat) : Int) ≤ 9223372036854775807 := by omega
  simp only [aop, aBin, hx, hy, aStrOp, if_pos h']
def isCmp : BinOp → Bool
  | .add => false
  | _ => true
theorem a_binS {x y : Operand} {t yt : TypeId} {op : BinOp} {a b : List UInt8} {r : AV} (hx : aeval E x = .str a) (hy : aeval E y = .str b) (h0 : isCmp op = true) (h : aStrOp op a b = some r) : Yields P E (.binOp op t x y yt) r := by
  refine ⟨?_⟩
  simp [aop, aBin, hx, hy, h]
theorem a_binB {x y : Operand} {t yt : TypeId} {op : BinOp} {a b : Bool} {r : AV} [hu : TyU P t .bool] (hx : aeval E x = .bool a) (hy : aeval E y = .bool b) (h : aEqOp op (a == b) = some r) : Yields P E (.binOp op t x y yt) r := by
  refine ⟨?_⟩
  simp [aop, aBin, hx, hy, hu.h, isBoolD, h]
theorem a_nilP {x y : Operand} {t yt : TypeId} {op : BinOp} {e : TypeId} {v r : AV} {b : Bool} [hu : TyU P t (.pointer e)] (hx : aeval E x = v) (hy : aeval E y = .nilp) (hv : nilFit (.pointer e) v = true) (hc : isConstB y = true) (hn : aNil v = some b) (h : aEqOp op b = some r) : Yields P E (.binOp op t x y yt) r := by
  refine ⟨?_⟩
  cases v <;> simp [nilFit] at hv <;> simp [aop, aBin, hx, hy, hu.h, nilD, nilFit, hc, hn, h]
theorem a_nilS {x y : Operand} {t yt : TypeId} {op : BinOp} {e : TypeId} {v r : AV} {b : Bool} [hu : TyU P t (.slice e)] (hx : aeval E x = v) (hy : aeval E y = .nils) (hv : nilFit (.slice e) v = true) (hc : isConstB y = true) (hn : aNil v = some b) (h : aEqOp op b = some r) : Yields P E (.binOp op t x y yt) r := by
  refine ⟨?_⟩
  cases v <;> simp [nilFit] at hv <;> simp [aop, aBin, hx, hy, hu.h, nilD, nilFit, hc, hn, h]
theorem a_nilF {x y : Operand} {t yt : TypeId} {op : BinOp} {p q : Array TypeId} {z : Bool} {v r : AV} {b : Bool} [hu : TyU P t (.func p q z)] (hx : aeval E x = v) (hy : aeval E y = .nilfn) (hv : nilFit (.func p q z) v = true) (hc : isConstB y = true) (hn : aNil v = some b) (h : aEqOp op b = some r) : Yields P E (.binOp op t x y yt) r := by
  refine ⟨?_⟩
  cases v <;> simp [nilFit] at hv <;> simp [aop, aBin, hx, hy, hu.h, nilD, nilFit, hc, hn, h]
theorem a_not {x : Operand} {t : TypeId} {b : Bool} (hx : aeval E x = .bool b) : Yields P E (.unOp .not t x) (.bool (!b)) := by
  refine ⟨?_⟩
  simp [aop, hx, AV.val, aUnV, Op.unary, semVal, Pure.pure, aConst, aCell]
theorem a_pick {c x y : Operand} {b : Bool} {u v : AV} (hc : aeval E c = .bool b) (hx : aeval E x = u) (hy : aeval E y = v) : Yields P E (.pick c x y) (bif b then u else v) := by
  refine ⟨?_⟩
  simp [aop, aPick, hc, hx, hy]
theorem a_nilCheck {x : Operand} {v r : AV} (hx : aeval E x = v) (h : aNilCheck v = some r) : Yields P E (.nilCheck x) r := by
  refine ⟨?_⟩
  simp [aop, hx, h]
theorem a_extract {x : Operand} {i : Nat} {vs : List AV} {v : AV} (hx : aeval E x = .tup vs) (h : vs[i]? = some v) : Yields P E (.extract x i) v := by
  refine ⟨?_⟩
  simp [aop, aExtract, hx, h]
theorem a_convI {x : Operand} {s d : TypeId} {k k' : IntKind} {n : Int} [hs : TyU P s (.int k)] [hd : TyU P d (.int k')] (hx : aeval E x = .int k n) : Yields P E (.convert s d x) (.int k' (k'.wrap n)) := by
  refine ⟨?_⟩
  have h1 := hs.h
  have h2 := hd.h
  simp [aop, aConv, aConvV, hx, convert, underlying, program, Bind.bind, Sem.bind, semVal, h1, h2, Conv.intToInt, Pure.pure, aConst, aCell]
theorem a_nilsStr {x : Operand} {s d e : TypeId} [hs : TyU P s (.slice e)] [hd : TyU P d .string] [he : TyU P e (.int .u8)] (hx : aeval E x = .nils) : Yields P E (.convert s d x) (.str []) := by
  refine ⟨?_⟩
  simp [aop, aConv, aBytesStr, hx, hs.h, hd.h, he.h]
theorem a_strBytes {x : Operand} {s d e : TypeId} {l : List UInt8} [hs : TyU P s .string] [hd : TyU P d (.slice e)] [he : TyU P e (.int .u8)] (hx : aeval E x = .str l) (h : l.length ≤ 140737488355328) : Yields P E (.convert s d x) (.slc 1 (aBytes l) .no) := by
  refine ⟨?_⟩
  simp [aop, aConv, aStrBytes, hx, hs.h, hd.h, he.h, h]
def bnd (E : AEnv) (x : Option Operand) (d : Int) : Option Int := aBound (x.map (aeval E)) d
theorem a_sliceS {x : Operand} {lo hi : Option Operand} {t : TypeId} {l : List UInt8} {a b : Int} [hu : TyU P t .string] (hx : aeval E x = .str l) (ha : bnd E lo 0 = some a) (hb : bnd E hi l.length = some b) (h : 0 ≤ a ∧ a ≤ b ∧ b ≤ l.length) :
    Yields P E (.slice t x lo hi none) (.str ((l.take b.toNat).drop a.toNat)) := by
  refine ⟨?_⟩
  unfold bnd at ha hb
  simp [aop, aSlice, hx, hu.h, ha, hb, h]
theorem a_sliceL {x : Operand} {lo hi : Option Operand} {t e sz : TypeId} {xs : List AV} {tk : Tok} {a b : Int} [hu : TyU P t (.slice e)] [hs : TyS P e sz] (hx : aeval E x = .slc sz xs tk) (ha : bnd E lo 0 = some a) (hb : bnd E hi xs.length = some b) (h : 0 ≤ a ∧ a ≤ b ∧ b ≤ xs.length) :
    Yields P E (.slice t x lo hi none) (.slc sz ((xs.take b.toNat).drop a.toNat) .no) := by
  refine ⟨?_⟩
  unfold bnd at ha hb
  simp [aop, aSlice, hx, hu.h, hs.h, ha, hb, h]
def evals (E : AEnv) : List Operand → List AV
  | [] => []
  | x :: l => aeval E x :: evals E l
theorem evals_eq (E : AEnv) : ∀ l, evals E l = l.map (aeval E)
  | [] => rfl
  | x :: l => by rw [evals, evals_eq E l]; rfl
def envArgs : Nat → List AV → List (Nat × AV)
  | _, [] => []
  | k, x :: l => (k, x) :: envArgs (k + 1) l
theorem env_args : ∀ (l : List AV) (k t : Nat), env (envArgs k l) t = if t < k then .und else l.getD (t - k) .und
  | [], k, t => by simp [envArgs, env]
  | x :: l, k, t => by
    rw [envArgs, env, env_args l (k + 1) t]
    by_cases h : t = k
    · subst h; simp
    · rw [if_neg h]
      by_cases h1 : t < k
      · rw [if_pos (by omega), if_pos h1]
      · rw [if_neg (by omega), if_neg h1]
        have : t - k = (t - (k + 1)) + 1 := by omega
        rw [this]; simp [List.getD]
theorem args_env (l : List AV) : (fun t => l.getD t .und) = env (envArgs 0 l) := by
  funext t
  rw [env_args]; simp
end

section
variable {P : Program} {w0 : Base} {ds : List (Option Tmp)} {kind : Kd} {Q : AEnv → St → Prop} {σ : St} {o : Oper} {l : List Oper} {i : Nat} {L : List (Nat × AV)}
theorem want_n {j d : Nat} {want : Bool} (hg : o.guard = some (j, want)) (hd : ds.getD j none = some d) (hb : env L d = .tup []) : aWantL ds (env L) o = some false := by simp only [aWantL, hg, hd, hb]
theorem get_map {α : Type} {f : α → AV} {a : List α} {i : Nat} {x : α} (h : a[i]? = some x) : (a.map f)[i]? = some (f x) := by simp [h]
theorem get_bytes {l : List UInt8} {i : Nat} {b : UInt8} (h : l[i]? = some b) : (aBytes l)[i]? = some (.int .u8 b.toNat) := by simp [aBytes, h]; rfl
def CallP (P : Program) (w0 : Base) (f : FuncId) (args : List AV) (r : AV) : Prop := ∀ σ, CallW P w0 f args σ (fun r' σ' => r' = r ∧ σ' = σ)
theorem aLoad1 {t : TypeId} [hu : TyA P t false] [hs : TyS P t 1] {cs : List AV} {off : Nat} {r : AV} (hc : cs[off]? = some r) : aLoadBox P t cs off = some r := by
  obtain ⟨d, hu, hd⟩ := hu.h
  simp [aLoadBox, hu, hs.h, hd, hc]
theorem aLoadA {t n : TypeId} [hu : TyA P t true] [hs : TyS P t n] {cs us : List AV} {off : Nat} (hc : (cs.drop off).take n = us) (hl : us.length = n) (ho : us.all AV.one = true) : aLoadBox P t cs off = some (.agg us) := by
  obtain ⟨d, hu, hd⟩ := hu.h
  simp [aLoadBox, hu, hs.h, hd, hc, hl]; intro x hx; exact List.all_eq_true.1 ho x hx
end
section
variable {P : Program} {w0 : Base} {n : Nat} {Q : Exit → AEnv → St → Prop} {σ : St} {L : List (Nat × AV)}
theorem CallW.start {f : FuncId} {fn : Func} {c : Code} {m : Nat} {args : List AV} {K : AV → St → Prop} (hf : P.funcs[f]? = some fn) (hb : fn.body = some c) (hm : fn.ntmps = m) (ha : args.length ≤ m)
    (h : ∀ Q, Q = Post P fn.results.toList K → W P w0 m c Q (env (envArgs 0 args)) σ) : CallW P w0 f args σ K := .body hf hb hm ha (by rw [args_env]; exact h _ rfl)
theorem CallP.start {f : FuncId} {fn : Func} {c : Code} {m : Nat} {args : List AV} {r : AV} (hf : P.funcs[f]? = some fn) (hb : fn.body = some c) (hm : fn.ntmps = m) (ha : args.length ≤ m)
    (h : ∀ σ Q, Q = Post P fn.results.toList (fun r' σ' => r' = r ∧ σ' = σ) → W P w0 m c Q (env (envArgs 0 args)) σ) : CallP P w0 f args r := fun σ => .start hf hb hm ha (h σ)
def weakL : List (Nat × AV) → AEnv → Prop
  | [], _ => True
  | (k, x) :: l, E => Weak x (E k) ∧ weakL l E
theorem weakL_eq : ∀ l E, weakL l E = weakAll l E
  | [], _ => rfl
  | (k, x) :: l, E => by rw [weakL, weakAll, weakL_eq l E]
theorem Has.by {l : List (Nat × AV)} {E : AEnv} (h : weakL l E) : Has l E := .mk' (by rw [← weakL_eq]; exact h)
end
end Go.Al
end
