/- The law OneTables returns true for every input, and its arguments read as before: the tied card. No conditions. This is part 5 of 6 of its proof; the parts are read in order. No conditions. -/
import Derived.Test.YtkbmkhhcppfcnaaDoorCOneTablesP4
section
set_option linter.unusedVariables false
set_option linter.unusedSimpArgs false
set_option maxRecDepth 100000
set_option maxHeartbeats 1000000
namespace Go.Proofs.YtkbmkhhcppfcnaaDoor
open Go.Al Go.RowKit
structure XAt (τ σ : St) (bx : Nat) (x : Sub) (ac qv : AV) (ra rq : Option Nat) : Prop where
  le : St.Le τ σ
  hbx : σ.box bx = some (xc x ac qv)
  bxn : τ.box bx = none
  a : RowV σ 1 (x.acks.map (AV.int .i64)) ac ra
  q : RowV σ 8 (x.queue.map eMsg) qv rq
  an : ∀ b, ra = some b → τ.box b = none ∧ b ≠ bx
  qn : ∀ b, rq = some b → τ.box b = none ∧ b ≠ bx
  aq : ∀ b, ra = some b → rq ≠ some b
theorem XAt.ra_ne {τ σ : St} {bx : Nat} {x : Sub} {ac qv : AV} {ra rq : Option Nat} (h : XAt τ σ bx x ac qv ra rq) {c : Nat} (hc : σ.box c = none) : ra ≠ some c := by
  intro e; subst e; exact RowV.has h.a hc
theorem XAt.rq_ne {τ σ : St} {bx : Nat} {x : Sub} {ac qv : AV} {ra rq : Option Nat} (h : XAt τ σ bx x ac qv ra rq) {c : Nat} (hc : σ.box c = none) : rq ≠ some c := by
  intro e; subst e; exact RowV.has h.q hc
theorem XAt.other {τ σ : St} {bx : Nat} {x : Sub} {ac qv : AV} {ra rq : Option Nat} (h : XAt τ σ bx x ac qv ra rq) {c : Nat} (hc : τ.box c = none) (h1 : c ≠ bx) (h2 : ra ≠ some c) (h3 : rq ≠ some c) (ds : List AV) : XAt τ (σ.setBox c ds) bx x ac qv ra rq :=
  ⟨le_setBox h.le hc, by rw [setBox_ne (Ne.symm h1)]; exact h.hbx, h.bxn, h.a.set h2, h.q.set h3, h.an, h.qn, h.aq⟩
theorem XAt.own {τ σ : St} {bx : Nat} {x : Sub} {ac qv : AV} {ra rq : Option Nat} (h : XAt τ σ bx x ac qv ra rq) (y : Sub) (ha : y.acks = x.acks) (hq : y.queue = x.queue) : XAt τ (σ.setBox bx (xc y ac qv)) bx y ac qv ra rq :=
  ⟨le_setBox h.le h.bxn, setBox_same, h.bxn, by rw [ha]; exact h.a.set (fun e => (h.an _ e).2 rfl), by rw [hq]; exact h.q.set (fun e => (h.qn _ e).2 rfl), h.an, h.qn, h.aq⟩
theorem XAt.grow {τ σ : St} {bx : Nat} {x : Sub} {ac qv : AV} {ra rq : Option Nat} (h : XAt τ σ bx x ac qv ra rq) {c : Nat} (hc : σ.box c = none) (ds : List AV) : XAt (τ.setBox c ds) (σ.setBox c ds) bx x ac qv ra rq := by
  have hbx : bx ≠ c := by rintro rfl; rw [h.hbx] at hc; cases hc
  have hn : ∀ b, b ≠ c → τ.box b = none → (τ.setBox c ds).box b = none := fun b hb e => by rw [setBox_ne hb]; exact e
  refine ⟨⟨fun i cs e => ?_, fun p e => h.le.tok p e, h.le.obj⟩, by rw [setBox_ne hbx]; exact h.hbx, hn _ hbx h.bxn, h.a.set (h.ra_ne hc), h.q.set (h.rq_ne hc), fun b e => ⟨hn b (fun e2 => h.ra_ne hc (by rw [e, e2])) (h.an b e).1, (h.an b e).2⟩, fun b e => ⟨hn b (fun e2 => h.rq_ne hc (by rw [e, e2])) (h.qn b e).1, (h.qn b e).2⟩, h.aq⟩
  by_cases hi : i = c
  · subst hi; rw [setBox_same] at e ⊢; exact e
  · rw [setBox_ne hi] at e ⊢; exact h.le.box i cs e
theorem XAt.less {τ τ' σ : St} {bx : Nat} {x : Sub} {ac qv : AV} {ra rq : Option Nat} (h : XAt τ σ bx x ac qv ra rq) (hl : St.Le τ' τ) : XAt τ' σ bx x ac qv ra rq :=
  ⟨hl.trans h.le, h.hbx, le_none hl h.bxn, h.a, h.q, fun b e => ⟨le_none hl (h.an b e).1, (h.an b e).2⟩, fun b e => ⟨le_none hl (h.qn b e).1, (h.qn b e).2⟩, h.aq⟩
theorem ints_sz (l : List Int) : ∀ x ∈ l.map (AV.int .i64), x.cells.length = 1 := fun x hx => by
  obtain ⟨n, _, rfl⟩ := List.mem_map.1 hx; rfl
theorem msgs_sz (l : List Msg) : ∀ x ∈ l.map eMsg, x.cells.length = 8 := fun x hx => by
  obtain ⟨n, _, rfl⟩ := List.mem_map.1 hx; rfl
theorem XAt.appA {τ st σ' : St} {bx br : Nat} {x : Sub} {ac qv : AV} {ra rq : Option Nat} {rs : List AV} (h : XAt τ st bx x ac qv ra rq) (hrn : τ.box br = none) (hbr : br ≠ bx) (h1 : ra ≠ some br) (h2 : rq ≠ some br) {n : Int} {b' cap' : Nat}
    (hR : RowV σ' 1 (x.acks.map (AV.int .i64) ++ [.int .i64 n]) (.msl b' 0 ((x.acks.map (AV.int .i64)).length + 1) cap') (some b')) (hf : ra = some b' ∨ (st.setBox br rs).box b' = none) (hk : ∀ i cs, ra ≠ some i → (st.setBox br rs).box i = some cs → σ'.box i = some cs) (ht : σ'.tok = (st.setBox br rs).tok ∧ σ'.obj = (st.setBox br rs).obj) :
    XAt τ (σ'.setBox bx (xc { x with acks := x.acks ++ [n] } (.msl b' 0 ((x.acks.map (AV.int .i64)).length + 1) cap') qv)) bx { x with acks := x.acks ++ [n] } (.msl b' 0 ((x.acks.map (AV.int .i64)).length + 1) cap') qv (some b') rq ∧ some b' ≠ some br := by
  have hb : τ.box b' = none ∧ b' ≠ bx ∧ rq ≠ some b' ∧ b' ≠ br := by
    rcases hf with hf | hf
    · exact ⟨(h.an _ hf).1, (h.an _ hf).2, h.aq _ hf, fun e => h1 (by rw [hf, e])⟩
    · have hne : b' ≠ br := by rintro rfl; rw [setBox_same] at hf; cases hf
      rw [setBox_ne hne] at hf
      exact ⟨le_none h.le hf, fun e => (by subst e; rw [h.hbx] at hf; cases hf), h.rq_ne hf, hne⟩
  obtain ⟨hb1, hb2, hb3, hb4⟩ := hb
  refine ⟨⟨le_setBox ⟨fun i cs e => hk i cs (fun e2 => ?_) ?_, fun p e => by rw [ht.1]; exact h.le.tok p e, fun l o e => by rw [ht.2]; exact h.le.obj l o e⟩ h.bxn, setBox_same, h.bxn, ?_, ?_, fun b e => ?_, h.qn, fun b e => ?_⟩, fun e => hb4 (Option.some.inj e)⟩
  · have := (h.an _ e2).1
    rw [e] at this; cases this
  · rw [setBox_ne (fun e2 => by subst e2; rw [hrn] at e; cases e)]; exact h.le.box i cs e
  · have e1 : ({ x with acks := x.acks ++ [n] } : Sub).acks.map (AV.int .i64) = x.acks.map (AV.int .i64) ++ [.int .i64 n] := by simp
    rw [e1]
    exact hR.set (fun e => hb2 (Option.some.inj e))
  · refine ((h.q.set (c := br) (ds := rs) h2).keep fun b cs e hbb => hk b cs (fun e2 => h.aq _ e2 e) hbb).set fun e => (h.qn _ e).2 rfl
  · cases e; exact ⟨hb1, hb2⟩
  · cases e; exact hb3
theorem XAt.appQ {τ st σ' : St} {bx : Nat} {x : Sub} {ac qv : AV} {ra rq : Option Nat} (h : XAt τ st bx x ac qv ra rq) {m : Msg} {b' n' cap' : Nat}
    (hR : RowV σ' 8 (x.queue.map eMsg ++ [eMsg m]) (.msl b' 0 n' cap') (some b')) (hf : rq = some b' ∨ st.box b' = none) (hk : ∀ i cs, rq ≠ some i → st.box i = some cs → σ'.box i = some cs) (ht : σ'.tok = st.tok ∧ σ'.obj = st.obj) :
    XAt τ (σ'.setBox bx (xc { x with queue := x.queue ++ [m] } ac (.msl b' 0 n' cap'))) bx { x with queue := x.queue ++ [m] } ac (.msl b' 0 n' cap') ra (some b') := by
  have hb : τ.box b' = none ∧ b' ≠ bx ∧ ra ≠ some b' := by
    rcases hf with hf | hf
    · exact ⟨(h.qn _ hf).1, (h.qn _ hf).2, fun e => h.aq _ e hf⟩
    · exact ⟨le_none h.le hf, fun e => (by subst e; rw [h.hbx] at hf; cases hf), h.ra_ne hf⟩
  obtain ⟨hb1, hb2, hb3⟩ := hb
  refine ⟨le_setBox ⟨fun i cs e => hk i cs (fun e2 => ?_) (h.le.box i cs e), fun p e => by rw [ht.1]; exact h.le.tok p e, fun l o e => by rw [ht.2]; exact h.le.obj l o e⟩ h.bxn, setBox_same, h.bxn, ?_, ?_, h.an, fun b e => ?_, fun b e e2 => ?_⟩
  · have := (h.qn _ e2).1
    rw [e] at this; cases this
  · exact (h.a.keep fun b cs e hbb => hk b cs (fun e2 => h.aq _ e e2) hbb).set fun e => (h.an _ e).2 rfl
  · have e1 : ({ x with queue := x.queue ++ [m] } : Sub).queue.map eMsg = x.queue.map eMsg ++ [eMsg m] := by simp
    rw [e1]
    exact hR.set (fun e => hb2 (Option.some.inj e))
  · cases e; exact ⟨hb1, hb2⟩
  · cases e2; exact hb3 e
end Go.Proofs.YtkbmkhhcppfcnaaDoor
end
section
set_option linter.unusedVariables false
set_option linter.unusedSimpArgs false
set_option maxRecDepth 100000
set_option maxHeartbeats 1000000
namespace Go.Proofs.YtkbmkhhcppfcnaaDoor
open Go.Al Go.RowKit
def tabs2 : List AV := [.int .u8 97, .fn (.func 112) [] [], .int .u8 98, .fn (.func 114) [] [], .int .u8 110, .fn (.func 116) [] [], .int .u8 113, .fn (.func 117) [] [], .int .u8 115, .fn (.func 118) [] [], .int .u8 120, .fn (.func 119) [] []]
def idx2 (seq : Int) (l : List Msg) : Int := match l.findIdx? (fun m => decide (m.seq = seq)) with
  | some i => (i : Nat)
  | none => -1
def fm (l : List Msg) : List AV := (l.map eMsg).flatMap AV.cells
theorem fm_len (l : List Msg) : (fm l).length = l.length * 8 := by unfold fm; rw [flat_len (msgs_sz l), List.length_map]
end Go.Proofs.YtkbmkhhcppfcnaaDoor
end
section
set_option linter.unusedVariables false
set_option linter.unusedSimpArgs false
set_option maxRecDepth 100000
set_option maxHeartbeats 1000000
namespace Go.Proofs.YtkbmkhhcppfcnaaDoor
open Go.Al Go.RowKit
inductive PlaceAt (τ s : St) (bx : Nat) (x : Sub) (ra rq : Option Nat) (seq : Int) : Nat → Nat → Prop
  | found (i : Nat) (m : Msg) (b : Nat) (o : Nat) (hr : rq = some b) (hi : x.queue[i]? = some m) (hm : m.seq = seq) (hj : ∀ j m', j < i → x.queue[j]? = some m' → m'.seq ≠ seq) (ho : o = (fm (x.queue.take i)).length) : PlaceAt τ s bx x ra rq seq b o
  | lone (bm : Nat) (hj : ∀ m ∈ x.queue, m.seq ≠ seq) (hb : s.box bm = some (mc (msg0 0))) (hn : τ.box bm = none) (h1 : bm ≠ bx) (h2 : ra ≠ some bm) (h3 : rq ≠ some bm) : PlaceAt τ s bx x ra rq seq bm 0
def queued (t : UInt8) (seq : Int) (x : Sub) : Sub := if t.toNat = 98 then { x with queue := x.queue ++ [msg0 seq] } else x
end Go.Proofs.YtkbmkhhcppfcnaaDoor
end
section
set_option linter.unusedVariables false
set_option linter.unusedSimpArgs false
set_option maxRecDepth 100000
set_option maxHeartbeats 1000000
namespace Go.Proofs.YtkbmkhhcppfcnaaDoor
open Go.Al Go.RowKit
def tell (t : UInt8) (seq : Int) (v : List UInt8) (x : Sub) : Sub :=
  if t = 97 then { x with acks := (gp2 v (n2 v (0, false)).1 (n2 v (0, false)).2 x.acks).1 }
  else if t = 98 then { x with queue := updF seq (mB v) (x.queue ++ [msg0 seq]) }
  else if t = 110 then { x with note := (t2 v (0, false) 30).1 }
  else if t = 113 then { x with queue := updF seq (mQ v) x.queue }
  else if t = 115 then sS v x
  else if t = 120 then { x with queue := updF seq (mX v) x.queue }
  else x
def ReadT (w0 : Base) (f : FuncId) (tag : UInt8) : Prop := ∀ (τ σ : St) (bx br bm o : Nat) (x : Sub) (ac qv : AV) (ra rq : Option Nat) (seq : Int) (v : List UInt8), v.length ≤ 1000000 → x.acks.length ≤ 1000000 → XAt τ σ bx (queued tag seq x) ac qv ra rq → PlaceAt τ σ bx (queued tag seq x) ra rq seq bm o → σ.box br = some (rd2 v (0, false)) → τ.box br = none → br ≠ bx → ra ≠ some br → rq ≠ some br → br ≠ bm →
  CallW Tryd.prog w0 f [.ptr bx 0, .ptr bm o, .ptr br 0] σ (fun r s => r = .tup [] ∧ ∃ ac' ra', XAt τ s bx (tell tag seq v x) ac' qv ra' rq)
end Go.Proofs.YtkbmkhhcppfcnaaDoor
end
section
set_option linter.unusedVariables false
set_option linter.unusedSimpArgs false
set_option maxRecDepth 100000
set_option maxHeartbeats 2000000
namespace Go.Proofs.YtkbmkhhcppfcnaaDoor
open Go.Al Go.RowKit
def ePts (p : Pts) : AV := .tup [.int .i64 p.v, .int .u8 p.t.toNat, .int .i64 p.id, .int .i64 p.seq, .bool p.ok]
theorem getD_get {k : List UInt8} {i : Nat} (h : i < k.length) : k[i]? = some (k.getD i 0) := by simp [List.getD, h]
theorem a_nilEn {E : AEnv} {x y : Operand} {yt : TypeId} {b : Bool} (hx : aeval E x = eErr b) (hy : y = .const .nilIface) : Al.Yields Tryd.prog E (.binOp .neq 65 x y yt) (.bool (!b)) := by
  subst hy
  cases b
  · exact a_nilI hx rfl (.inr ⟨_, _, rfl⟩) rfl rfl rfl
  · exact a_nilI hx rfl (.inl rfl) rfl rfl rfl
theorem partsS_any (w0 : Base) (hL : Laid w0) (k : List UInt8) (hk : k.length ≤ 1000000) : CallP Tryd.prog w0 44 [.str k] (ePts (parts k)) := by
  refine CallP.start Tryd.func44 rfl Tryd.ntmps44 (by simp) fun σ Q hQ => ?_
  by_cases h0 : ¬ k.length = 22
  · have d0 : (!decide (((k.length : Nat) : Int) = 22)) = true := by simp; omega
    rw [parts, if_neg (fun h => h0 h.1)] at hQ
    refine W.seq ?_; refine W.regionL (by decide +kernel) rfl ?_; apply r_op; exact rfl; exact rfl; apply a_assign; (conv => (lhs; whnf)); apply r_op; exact rfl; exact rfl; apply a_assign; (conv => (lhs; whnf)); apply r_op; exact rfl; exact rfl; apply a_assign; (conv => (lhs; whnf)); apply r_op; exact rfl; exact rfl; apply a_assign; (conv => (lhs; whnf)); apply r_op; exact rfl; exact rfl
    apply a_assign; (conv => (lhs; whnf)); (with_reducible refine runs_done ?_); refine W.seq ?_; refine W.seq ?_; refine W.regionL (by decide +kernel) rfl ?_; apply r_op; exact rfl; exact rfl; apply a_move; (conv => (lhs; whnf)); apply r_op; exact rfl; exact rfl; apply g_call; exact a_len_str rfl; apply r_op; exact rfl; exact rfl; apply g_binOp; exact a_binI rfl rfl rfl; apply r_op; exact rfl
    exact rfl; apply a_move; (conv => (lhs; whnf)); apply q_skip; exact rfl; exact want_f rfl rfl rfl (by assumption); apply q_skip; exact rfl; exact want_f rfl rfl rfl (by assumption); apply q_skip; exact rfl; exact want_f rfl rfl rfl (by assumption); apply r_op; exact rfl; exact rfl; apply g_pick; apply a_pickT rfl (by assumption); (conv => (lhs; whnf)); apply r_op; exact rfl; exact rfl
    apply a_move; (conv => (lhs; whnf)); apply q_skip; exact rfl; exact want_f rfl rfl rfl (by exact rfl); apply q_skip; exact rfl; exact want_f rfl rfl rfl (by exact rfl); apply q_skip; exact rfl; exact want_f rfl rfl rfl (by exact rfl); apply r_op; exact rfl; exact rfl; apply g_pick; apply a_pickT rfl (by exact rfl); (conv => (lhs; whnf)); apply r_op; exact rfl; exact rfl; apply a_move
    (conv => (lhs; whnf)); apply q_skip; exact rfl; exact want_f rfl rfl rfl (by exact rfl); apply q_skip; exact rfl; exact want_f rfl rfl rfl (by exact rfl); apply q_skip; exact rfl; exact want_f rfl rfl rfl (by exact rfl); apply r_op; exact rfl; exact rfl; apply g_pick; apply a_pickT rfl (by exact rfl); (conv => (lhs; whnf)); apply r_op; exact rfl; exact rfl; apply a_move; (conv => (lhs; whnf))
    apply q_skip; exact rfl; exact want_f rfl rfl rfl (by exact rfl); apply q_skip; exact rfl; exact want_f rfl rfl rfl (by exact rfl); apply q_skip; exact rfl; exact want_f rfl rfl rfl (by exact rfl); apply r_op; exact rfl; exact rfl; apply g_pick; apply a_pickT rfl (by exact rfl); (conv => (lhs; whnf)); (with_reducible refine runs_done ?_); refine W.condT rfl (by exact rfl) ?_; refine W.seq ?_
    refine W.regionL (by decide +kernel) rfl ?_; apply r_op; exact rfl; exact rfl; apply a_assign; (conv => (lhs; whnf)); apply r_op; exact rfl; exact rfl; apply a_assign; (conv => (lhs; whnf)); apply r_op; exact rfl; exact rfl; apply a_assign; (conv => (lhs; whnf)); apply r_op; exact rfl; exact rfl; apply a_assign; (conv => (lhs; whnf)); apply r_op; exact rfl; exact rfl; apply a_assign
    (conv => (lhs; whnf)); (with_reducible refine runs_done ?_); refine W.ret ?_; show Q Exit.ret _ _; refine post_q hQ (by apply res_tmp; exact rfl; apply res_tmp; exact rfl; apply res_tmp; exact rfl; apply res_tmp; exact rfl; apply res_tmp; exact rfl; exact res_nil) (.inl rfl) (by exact .refl _) ?_; (conv => (lhs; whnf)); rfl
  have h0 := Decidable.of_not_not h0
  have d0 : (!decide (((k.length : Nat) : Int) = 22)) = false := by simp [h0]
  have g0 : k[(0 : Int).toNat]? = some (k.getD 0 0) := getD_get (by omega)
  have g1 : k[(1 : Int).toNat]? = some (k.getD 1 0) := getD_get (by omega)
  have hA1 := goAtoi_any w0 hL ((k.take (12 : Int).toNat).drop (2 : Int).toNat) (by simp; omega)
  have hA2 := goAtoi_any w0 hL ((k.take ((k.length : Nat) : Int).toNat).drop (12 : Int).toNat) (by simp; omega)
  have e1 : (k.take 12).drop 2 = (k.take (12 : Int).toNat).drop (2 : Int).toNat := rfl
  have e2 : k.drop 12 = (k.take ((k.length : Nat) : Int).toNat).drop (12 : Int).toNat := by rw [Int.toNat_natCast, List.take_length]; rfl
  have hp : parts k = if k.length = 22 ∧ (48 ≤ (k.getD 0 0).toNat ∧ (k.getD 0 0).toNat ≤ 57) ∧ (97 ≤ (k.getD 1 0).toNat ∧ (k.getD 1 0).toNat ≤ 122) then _ else _ := rfl
  rw [e1, e2] at hp
  generalize k.getD 0 0 = c0 at g0 hp
  generalize k.getD 1 0 = t at g1 hp
  generalize goAtoi ((k.take (12 : Int).toNat).drop (2 : Int).toNat) = A1 at hA1 hp
  generalize goAtoi ((k.take ((k.length : Nat) : Int).toNat).drop (12 : Int).toNat) = A2 at hA2 hp
  obtain ⟨a, ba⟩ := A1
  obtain ⟨b, bb⟩ := A2
  dsimp only at hA1 hA2 hp
  have hK : 48 ≤ c0.toNat ∧ c0.toNat ≤ 57 → CallP Tryd.prog w0 35 [.int .i64 (IntKind.i64.wrap (((Al.byteOf ((c0.toNat : Int) - 48)).toNat : Nat) : Int)), .int .u8 t.toNat, .int .i64 a, .int .i64 b] (.str (rkey (c0.toNat - 48) t a b)) := fun h => by
    rw [sub48 h]
    exact keyS_any w0 hL _ (by omega) _ a b
  clear e1 e2; refine W.seq ?_; refine W.regionL (by decide +kernel) rfl ?_; apply r_op; exact rfl; exact rfl; apply a_assign; (conv => (lhs; whnf)); apply r_op; exact rfl; exact rfl; apply a_assign; (conv => (lhs; whnf)); apply r_op; exact rfl; exact rfl; apply a_assign; (conv => (lhs; whnf)); apply r_op; exact rfl; exact rfl; apply a_assign; (conv => (lhs; whnf)); apply r_op; exact rfl; exact rfl
  apply a_assign; (conv => (lhs; whnf)); (with_reducible refine runs_done ?_); refine W.seq ?_; refine W.seq ?_; refine W.regionL (by decide +kernel) rfl ?_; apply r_op; exact rfl; exact rfl; apply a_move; (conv => (lhs; whnf)); apply r_op; exact rfl; exact rfl; apply g_call; exact a_len_str rfl; apply r_op; exact rfl; exact rfl; apply g_binOp; exact a_binI rfl rfl rfl; apply r_op; exact rfl
  exact rfl; apply a_move; (conv => (lhs; whnf)); apply r_op; exact rfl; exact want_t rfl rfl rfl (by assumption); apply a_move; (conv => (lhs; whnf)); apply r_op; exact rfl; exact want_t rfl rfl rfl (by assumption); apply g_index; exact a_indexS rfl rfl (by omega) (by assumption); apply r_op; exact rfl; exact want_t rfl rfl rfl (by assumption); apply g_binOp; exact a_binI rfl rfl rfl; apply r_op
  exact rfl; exact rfl; apply g_pick; apply a_pickF rfl (by assumption); (conv => (lhs; whnf)); apply r_op; exact rfl; exact rfl; apply a_move; (conv => (lhs; whnf)); refine q_split rfl rfl rfl (fun hg => ?_) (fun hg => ?_); apply q_skip; exact rfl; exact want_f rfl rfl rfl (by assumption); apply q_skip; exact rfl; exact want_f rfl rfl rfl (by assumption); apply q_skip; exact rfl
  exact want_f rfl rfl rfl (by assumption); apply r_op; exact rfl; exact rfl; apply g_pick; apply a_pickT rfl (by assumption); (conv => (lhs; whnf)); apply r_op; exact rfl; exact rfl; apply a_move; (conv => (lhs; whnf)); apply q_skip; exact rfl; exact want_f rfl rfl rfl (by exact rfl); apply q_skip; exact rfl; exact want_f rfl rfl rfl (by exact rfl); apply q_skip; exact rfl
  exact want_f rfl rfl rfl (by exact rfl); apply r_op; exact rfl; exact rfl; apply g_pick; apply a_pickT rfl (by exact rfl); (conv => (lhs; whnf)); apply r_op; exact rfl; exact rfl; apply a_move; (conv => (lhs; whnf)); apply q_skip; exact rfl; exact want_f rfl rfl rfl (by exact rfl); apply q_skip; exact rfl; exact want_f rfl rfl rfl (by exact rfl); apply q_skip; exact rfl
  exact want_f rfl rfl rfl (by exact rfl); apply r_op; exact rfl; exact rfl; apply g_pick; apply a_pickT rfl (by exact rfl); (conv => (lhs; whnf)); (with_reducible refine runs_done ?_); refine W.condT rfl (by exact rfl) ?_; refine W.seq ?_; refine W.regionL (by decide +kernel) rfl ?_; apply r_op; exact rfl; exact rfl; apply a_assign; (conv => (lhs; whnf)); apply r_op; exact rfl; exact rfl
  apply a_assign; (conv => (lhs; whnf)); apply r_op; exact rfl; exact rfl; apply a_assign; (conv => (lhs; whnf)); apply r_op; exact rfl; exact rfl; apply a_assign; (conv => (lhs; whnf)); apply r_op; exact rfl; exact rfl; apply a_assign; (conv => (lhs; whnf)); (with_reducible refine runs_done ?_); refine W.ret ?_; show Q Exit.ret _ _
  refine post_q hQ (by apply res_tmp; exact rfl; apply res_tmp; exact rfl; apply res_tmp; exact rfl; apply res_tmp; exact rfl; apply res_tmp; exact rfl; exact res_nil) (.inl rfl) (by exact .refl _) ?_; (conv => (lhs; whnf)); rotate_left; apply r_op; exact rfl; exact want_t rfl rfl rfl (by assumption); apply a_move; (conv => (lhs; whnf)); apply r_op; exact rfl
  exact want_t rfl rfl rfl (by assumption); apply g_index; exact a_indexS rfl rfl (by omega) (by assumption); apply r_op; exact rfl; exact want_t rfl rfl rfl (by assumption); apply g_binOp; exact a_binI rfl rfl rfl; apply r_op; exact rfl; exact rfl; apply g_pick; apply a_pickF rfl (by assumption); (conv => (lhs; whnf)); apply r_op; exact rfl; exact rfl; apply a_move; (conv => (lhs; whnf))
  refine q_split rfl rfl rfl (fun hg => ?_) (fun hg => ?_); apply q_skip; exact rfl; exact want_f rfl rfl rfl (by assumption); apply q_skip; exact rfl; exact want_f rfl rfl rfl (by assumption); apply q_skip; exact rfl; exact want_f rfl rfl rfl (by assumption); apply r_op; exact rfl; exact rfl; apply g_pick; apply a_pickT rfl (by assumption); (conv => (lhs; whnf)); apply r_op; exact rfl; exact rfl
  apply a_move; (conv => (lhs; whnf)); apply q_skip; exact rfl; exact want_f rfl rfl rfl (by exact rfl); apply q_skip; exact rfl; exact want_f rfl rfl rfl (by exact rfl); apply q_skip; exact rfl; exact want_f rfl rfl rfl (by exact rfl); apply r_op; exact rfl; exact rfl; apply g_pick; apply a_pickT rfl (by exact rfl); (conv => (lhs; whnf)); (with_reducible refine runs_done ?_)
  refine W.condT rfl (by exact rfl) ?_; refine W.seq ?_; refine W.regionL (by decide +kernel) rfl ?_; apply r_op; exact rfl; exact rfl; apply a_assign; (conv => (lhs; whnf)); apply r_op; exact rfl; exact rfl; apply a_assign; (conv => (lhs; whnf)); apply r_op; exact rfl; exact rfl; apply a_assign; (conv => (lhs; whnf)); apply r_op; exact rfl; exact rfl; apply a_assign; (conv => (lhs; whnf))
  apply r_op; exact rfl; exact rfl; apply a_assign; (conv => (lhs; whnf)); (with_reducible refine runs_done ?_); refine W.ret ?_; show Q Exit.ret _ _; refine post_q hQ (by apply res_tmp; exact rfl; apply res_tmp; exact rfl; apply res_tmp; exact rfl; apply res_tmp; exact rfl; apply res_tmp; exact rfl; exact res_nil) (.inl rfl) (by exact .refl _) ?_; (conv => (lhs; whnf)); rotate_left; apply r_op
  exact rfl; exact want_t rfl rfl rfl (by assumption); apply a_move; (conv => (lhs; whnf)); apply r_op; exact rfl; exact want_t rfl rfl rfl (by assumption); apply g_index; exact a_indexS rfl rfl (by omega) (by assumption); apply r_op; exact rfl; exact want_t rfl rfl rfl (by assumption); apply g_binOp; exact a_binI rfl rfl rfl; apply r_op; exact rfl; exact rfl; apply g_pick
  apply a_pickF rfl (by assumption); (conv => (lhs; whnf)); apply r_op; exact rfl; exact rfl; apply a_move; (conv => (lhs; whnf)); refine q_split rfl rfl rfl (fun hg => ?_) (fun hg => ?_); apply q_skip; exact rfl; exact want_f rfl rfl rfl (by assumption); apply q_skip; exact rfl; exact want_f rfl rfl rfl (by assumption); apply q_skip; exact rfl; exact want_f rfl rfl rfl (by assumption); apply r_op
  exact rfl; exact rfl; apply g_pick; apply a_pickT rfl (by assumption); (conv => (lhs; whnf)); (with_reducible refine runs_done ?_); refine W.condT rfl (by exact rfl) ?_; refine W.seq ?_; refine W.regionL (by decide +kernel) rfl ?_; apply r_op; exact rfl; exact rfl; apply a_assign; (conv => (lhs; whnf)); apply r_op; exact rfl; exact rfl; apply a_assign; (conv => (lhs; whnf)); apply r_op; exact rfl
  exact rfl; apply a_assign; (conv => (lhs; whnf)); apply r_op; exact rfl; exact rfl; apply a_assign; (conv => (lhs; whnf)); apply r_op; exact rfl; exact rfl; apply a_assign; (conv => (lhs; whnf)); (with_reducible refine runs_done ?_); refine W.ret ?_; show Q Exit.ret _ _
  refine post_q hQ (by apply res_tmp; exact rfl; apply res_tmp; exact rfl; apply res_tmp; exact rfl; apply res_tmp; exact rfl; apply res_tmp; exact rfl; exact res_nil) (.inl rfl) (by exact .refl _) ?_; (conv => (lhs; whnf)); rotate_left; apply r_op; exact rfl; exact want_t rfl rfl rfl (by assumption); apply a_move; (conv => (lhs; whnf)); apply r_op; exact rfl
  exact want_t rfl rfl rfl (by assumption); apply g_index; exact a_indexS rfl rfl (by omega) (by assumption); apply r_op; exact rfl; exact want_t rfl rfl rfl (by assumption); apply g_binOp; exact a_binI rfl rfl rfl; apply r_op; exact rfl; exact rfl; apply g_pick; apply a_pickF rfl (by assumption); (conv => (lhs; whnf)); (with_reducible refine runs_done ?_)
  refine W.cond rfl (fun hc => ?_) (fun hc => ?_); refine W.seq ?_; refine W.regionL (by decide +kernel) rfl ?_; apply r_op; exact rfl; exact rfl; apply a_assign; (conv => (lhs; whnf)); apply r_op; exact rfl; exact rfl; apply a_assign; (conv => (lhs; whnf)); apply r_op; exact rfl; exact rfl; apply a_assign; (conv => (lhs; whnf)); apply r_op; exact rfl; exact rfl; apply a_assign
  (conv => (lhs; whnf)); apply r_op; exact rfl; exact rfl; apply a_assign; (conv => (lhs; whnf)); (with_reducible refine runs_done ?_); refine W.ret ?_; show Q Exit.ret _ _; refine post_q hQ (by apply res_tmp; exact rfl; apply res_tmp; exact rfl; apply res_tmp; exact rfl; apply res_tmp; exact rfl; apply res_tmp; exact rfl; exact res_nil) (.inl rfl) (by exact .refl _) ?_; (conv => (lhs; whnf))
  rotate_left; refine W.skip ?_; show W _ _ _ _ _ _ _; refine W.seq ?_; refine W.regionL (by decide +kernel) rfl ?_; apply r_op; exact rfl; exact rfl; apply a_move; (conv => (lhs; whnf)); apply r_op; exact rfl; exact rfl; apply g_index; exact a_indexS rfl rfl (by omega) (by assumption); apply r_op; exact rfl; exact rfl; apply g_binOp; exact a_u8sub rfl rfl; apply r_op; exact rfl; exact rfl
  apply g_convert; exact a_convI rfl; apply r_op; exact rfl; exact rfl; apply a_assign; (conv => (lhs; whnf)); (with_reducible refine runs_done ?_); refine W.seq ?_; refine W.regionL (by decide +kernel) rfl ?_; apply r_op; exact rfl; exact rfl; apply a_move; (conv => (lhs; whnf)); apply r_op; exact rfl; exact rfl; apply g_slice; exact a_sliceS rfl rfl rfl (by omega); apply r_callP; exact rfl
  exact rfl; exact rfl; exact rfl; exact rfl; infer_instance; exact hA1; apply r_op; exact rfl; exact rfl; apply a_move; (conv => (lhs; whnf)); apply r_op; exact rfl; exact rfl; apply g_extract; exact a_extract rfl rfl; apply r_op; exact rfl; exact rfl; apply g_extract; exact a_extract rfl rfl; apply r_op; exact rfl; exact rfl; apply a_assign; (conv => (lhs; whnf)); apply r_op; exact rfl; exact rfl
  apply a_assign; (conv => (lhs; whnf)); (with_reducible refine runs_done ?_); refine W.seq ?_; refine W.regionL (by decide +kernel) rfl ?_; apply r_op; exact rfl; exact rfl; apply a_move; (conv => (lhs; whnf)); apply r_op; exact rfl; exact rfl; apply g_slice; exact a_sliceS rfl rfl rfl (by omega); apply r_callP; exact rfl; exact rfl; exact rfl; exact rfl; exact rfl; infer_instance; exact hA2
  apply r_op; exact rfl; exact rfl; apply a_move; (conv => (lhs; whnf)); apply r_op; exact rfl; exact rfl; apply g_extract; exact a_extract rfl rfl; apply r_op; exact rfl; exact rfl; apply g_extract; exact a_extract rfl rfl; apply r_op; exact rfl; exact rfl; apply a_assign; (conv => (lhs; whnf)); apply r_op; exact rfl; exact rfl; apply a_assign; (conv => (lhs; whnf))
  (with_reducible refine runs_done ?_); refine W.seq ?_; refine W.seq ?_; refine W.regionL (by decide +kernel) rfl ?_; apply r_op; exact rfl; exact rfl; apply a_move; (conv => (lhs; whnf)); apply r_op; exact rfl; exact rfl; apply g_binOp; exact a_nilEn rfl rfl; apply r_op; exact rfl; exact rfl; apply a_move; (conv => (lhs; whnf)); refine q_split rfl rfl rfl (fun hg => ?_) (fun hg => ?_); apply q_skip
  exact rfl; exact want_f rfl rfl rfl (by assumption); apply q_skip; exact rfl; exact want_f rfl rfl rfl (by assumption); apply r_op; exact rfl; exact rfl; apply g_pick; apply a_pickT rfl (by assumption); (conv => (lhs; whnf)); apply r_op; exact rfl; exact rfl; apply a_move; (conv => (lhs; whnf)); apply q_skip; exact rfl; exact want_f rfl rfl rfl (by exact rfl); apply q_skip; exact rfl
  exact want_f rfl rfl rfl (by exact rfl); apply q_skip; exact rfl; exact want_f rfl rfl rfl (by exact rfl); apply q_skip; exact rfl; exact want_f rfl rfl rfl (by exact rfl); apply q_skip; exact rfl; exact want_f rfl rfl rfl (by exact rfl); apply q_skip; exact rfl; exact want_f rfl rfl rfl (by exact rfl); apply q_skip; exact rfl; exact want_f rfl rfl rfl (by exact rfl); apply q_skip; exact rfl
  exact want_f rfl rfl rfl (by exact rfl); apply r_op; exact rfl; exact rfl; apply g_pick; apply a_pickT rfl (by exact rfl); (conv => (lhs; whnf)); (with_reducible refine runs_done ?_); refine W.condT rfl (by exact rfl) ?_; refine W.seq ?_; refine W.regionL (by decide +kernel) rfl ?_; apply r_op; exact rfl; exact rfl; apply a_assign; (conv => (lhs; whnf)); apply r_op; exact rfl; exact rfl
  apply a_assign; (conv => (lhs; whnf)); apply r_op; exact rfl; exact rfl; apply a_assign; (conv => (lhs; whnf)); apply r_op; exact rfl; exact rfl; apply a_assign; (conv => (lhs; whnf)); apply r_op; exact rfl; exact rfl; apply a_assign; (conv => (lhs; whnf)); (with_reducible refine runs_done ?_); refine W.ret ?_; show Q Exit.ret _ _
  refine post_q hQ (by apply res_tmp; exact rfl; apply res_tmp; exact rfl; apply res_tmp; exact rfl; apply res_tmp; exact rfl; apply res_tmp; exact rfl; exact res_nil) (.inl rfl) (by exact .refl _) ?_; (conv => (lhs; whnf)); rotate_left; apply r_op; exact rfl; exact want_t rfl rfl rfl (by assumption); apply a_move; (conv => (lhs; whnf)); apply r_op; exact rfl
  exact want_t rfl rfl rfl (by assumption); apply g_binOp; exact a_nilEn rfl rfl; apply r_op; exact rfl; exact rfl; apply g_pick; apply a_pickF rfl (by assumption); (conv => (lhs; whnf)); apply r_op; exact rfl; exact rfl; apply a_move; (conv => (lhs; whnf)); refine q_split rfl rfl rfl (fun hg => ?_) (fun hg => ?_); apply q_skip; exact rfl; exact want_f rfl rfl rfl (by assumption); apply q_skip
  exact rfl; exact want_f rfl rfl rfl (by assumption); apply q_skip; exact rfl; exact want_f rfl rfl rfl (by assumption); apply q_skip; exact rfl; exact want_f rfl rfl rfl (by assumption); apply q_skip; exact rfl; exact want_f rfl rfl rfl (by assumption); apply q_skip; exact rfl; exact want_f rfl rfl rfl (by assumption); apply q_skip; exact rfl; exact want_f rfl rfl rfl (by assumption)
  apply q_skip; exact rfl; exact want_f rfl rfl rfl (by assumption); apply r_op; exact rfl; exact rfl; apply g_pick; apply a_pickT rfl (by assumption); (conv => (lhs; whnf)); (with_reducible refine runs_done ?_); refine W.condT rfl (by exact rfl) ?_; refine W.seq ?_; refine W.regionL (by decide +kernel) rfl ?_; apply r_op; exact rfl; exact rfl; apply a_assign; (conv => (lhs; whnf)); apply r_op
  exact rfl; exact rfl; apply a_assign; (conv => (lhs; whnf)); apply r_op; exact rfl; exact rfl; apply a_assign; (conv => (lhs; whnf)); apply r_op; exact rfl; exact rfl; apply a_assign; (conv => (lhs; whnf)); apply r_op; exact rfl; exact rfl; apply a_assign; (conv => (lhs; whnf)); (with_reducible refine runs_done ?_); refine W.ret ?_; show Q Exit.ret _ _
  refine post_q hQ (by apply res_tmp; exact rfl; apply res_tmp; exact rfl; apply res_tmp; exact rfl; apply res_tmp; exact rfl; apply res_tmp; exact rfl; exact res_nil) (.inl rfl) (by exact .refl _) ?_; (conv => (lhs; whnf)); rotate_left; apply r_op; exact rfl; exact want_t rfl rfl rfl (by assumption); apply a_move; (conv => (lhs; whnf)); apply r_op; exact rfl
  exact want_t rfl rfl rfl (by assumption); apply a_move; (conv => (lhs; whnf)); apply r_op; exact rfl; exact want_t rfl rfl rfl (by assumption); apply g_index; exact a_indexS rfl rfl (by omega) (by assumption); apply r_op; exact rfl; exact want_t rfl rfl rfl (by assumption); apply a_move; (conv => (lhs; whnf)); apply r_op; exact rfl; exact want_t rfl rfl rfl (by assumption); apply a_move
  (conv => (lhs; whnf)); apply r_callP; exact rfl; exact rfl; exact want_t rfl rfl rfl (by assumption); exact rfl; exact rfl; infer_instance; exact hK ⟨Int.ofNat_le.1 (Int.not_lt.1 (of_decide_eq_false (by assumption))), Int.ofNat_le.1 (Int.not_lt.1 (of_decide_eq_false (by assumption)))⟩; apply r_op; exact rfl; exact want_t rfl rfl rfl (by assumption); apply a_move; (conv => (lhs; whnf)); apply r_op
  exact rfl; exact want_t rfl rfl rfl (by assumption); apply g_binOp; exact a_binS rfl rfl rfl rfl; apply r_op; exact rfl; exact rfl; apply g_pick; apply a_pickF rfl (by assumption); (conv => (lhs; whnf)); (with_reducible refine runs_done ?_); refine W.cond rfl (fun hc => ?_) (fun hc => ?_); refine W.seq ?_; refine W.regionL (by decide +kernel) rfl ?_; apply r_op; exact rfl; exact rfl; apply a_assign
  (conv => (lhs; whnf)); apply r_op; exact rfl; exact rfl; apply a_assign; (conv => (lhs; whnf)); apply r_op; exact rfl; exact rfl; apply a_assign; (conv => (lhs; whnf)); apply r_op; exact rfl; exact rfl; apply a_assign; (conv => (lhs; whnf)); apply r_op; exact rfl; exact rfl; apply a_assign; (conv => (lhs; whnf)); (with_reducible refine runs_done ?_); refine W.ret ?_; show Q Exit.ret _ _
  refine post_q hQ (by apply res_tmp; exact rfl; apply res_tmp; exact rfl; apply res_tmp; exact rfl; apply res_tmp; exact rfl; apply res_tmp; exact rfl; exact res_nil) (.inl rfl) (by exact .refl _) ?_; (conv => (lhs; whnf)); rotate_left; refine W.skip ?_; show W _ _ _ _ _ _ _; refine W.seq ?_; refine W.regionDK 1 [] Ty.mixed (by decide +kernel) (by decide +kernel) rfl ?_; apply r_op; exact rfl
  exact rfl; apply a_move; (conv => (lhs; whnf)); apply r_op; exact rfl; exact rfl; apply a_move; (conv => (lhs; whnf)); apply r_op; exact rfl; exact rfl; apply g_index; exact a_indexS rfl rfl (by omega) (by assumption); apply r_op; exact rfl; exact rfl; apply a_move; (conv => (lhs; whnf)); apply r_op; exact rfl; exact rfl; apply a_move; (conv => (lhs; whnf)); apply r_op; exact rfl; exact rfl
  apply a_assign; (conv => (lhs; whnf)); apply r_op; exact rfl; exact rfl; apply a_assign; (conv => (lhs; whnf)); apply r_op; exact rfl; exact rfl; apply a_assign; (conv => (lhs; whnf)); apply r_op; exact rfl; exact rfl; apply a_assign; (conv => (lhs; whnf)); apply r_op; exact rfl; exact rfl; apply a_assign; (conv => (lhs; whnf)); (with_reducible refine runs_done ?_); refine W.ret ?_
  show Q Exit.ret _ _; refine post_q hQ (by apply res_tmp; exact rfl; apply res_tmp; exact rfl; apply res_tmp; exact rfl; apply res_tmp; exact rfl; apply res_tmp; exact rfl; exact res_nil) (.inl rfl) (by exact .refl _) ?_; (conv => (lhs; whnf)); rotate_left
  · have hn : parts k = .none := by rw [hp, if_neg (fun h => by have := of_decide_eq_true hg; omega)]
    rw [hn]; rfl
  · have hn : parts k = .none := by rw [hp, if_neg (fun h => by have := of_decide_eq_true hg; omega)]
    rw [hn]; rfl
  · have hn : parts k = .none := by rw [hp, if_neg (fun h => by have := of_decide_eq_true hg; omega)]
    rw [hn]; rfl
  · have hn : parts k = .none := by rw [hp, if_neg (fun h => by have := of_decide_eq_true hc; omega)]
    rw [hn]; rfl
  · have hn : parts k = .none := by
      rw [hp]; split <;> first | rfl | (rw [if_neg]; intro h; rw [h.1] at hg; cases hg)
    rw [hn]; rfl
  · have hn : parts k = .none := by
      rw [hp]; split <;> first | rfl | (rw [if_neg]; intro h; rw [h.2.1] at hg; cases hg)
    rw [hn]; rfl
  · have hn : parts k = .none := by
      rw [hp]; split <;> first | rfl | (rw [if_neg]; intro h; simp [h.2.2] at hc)
    rw [hn]; rfl
  · have h48 : 48 ≤ c0.toNat ∧ c0.toNat ≤ 57 := ⟨Int.ofNat_le.1 (Int.not_lt.1 (of_decide_eq_false (by assumption))), Int.ofNat_le.1 (Int.not_lt.1 (of_decide_eq_false (by assumption)))⟩
    have h97 : 97 ≤ t.toNat ∧ t.toNat ≤ 122 := ⟨Int.ofNat_le.1 (Int.not_lt.1 (of_decide_eq_false (by assumption))), Int.ofNat_le.1 (Int.not_lt.1 (of_decide_eq_false (by assumption)))⟩
    have hba : ba = true := by simpa using ‹(!ba) = false›
    have hbb : bb = true := by simpa using ‹(!bb) = false›
    have hn : parts k = ⟨c0.toNat - 48, t, a, b, true⟩ := by
      rw [hp, if_pos ⟨h0, h48, h97⟩, if_pos ⟨hba, hbb, by simpa using hc⟩]
    rw [hn, ePts, ← sub48 h48]; rfl
end Go.Proofs.YtkbmkhhcppfcnaaDoor
end
section
set_option linter.unusedVariables false
set_option linter.unusedSimpArgs false
set_option maxRecDepth 100000
set_option maxHeartbeats 1000000
namespace Go.Proofs.YtkbmkhhcppfcnaaDoor
open Go.Al Go.RowKit
theorem XAt.know {τ s : St} {bx : Nat} {x : Sub} {ac qv : AV} {ra rq : Option Nat} (h : XAt τ s bx x ac qv ra rq) {B : BL} (hB : Know τ B) : Know s ((bx, xc x ac qv) :: B) := ⟨fun p hp => by
  rcases List.mem_cons.1 hp with rfl | hp
  · exact h.hbx
  · exact h.le.box _ _ (hB.has p hp), by
  rw [List.map_cons, List.nodup_cons]
  refine ⟨fun hm => ?_, hB.nd⟩
  obtain ⟨p, hp, e⟩ := List.mem_map.1 hm
  have := hB.has p hp
  rw [e, h.bxn] at this; cases this⟩
theorem ints_one (l : List Int) : ∀ x ∈ l.map (AV.int .i64), x.cells.length = 1 ∧ ∀ c ∈ x.cells, c.one = true := fun x hx => by
  obtain ⟨n, _, rfl⟩ := List.mem_map.1 hx; exact ⟨rfl, fun c hc => by simp [AV.cells] at hc; subst hc; rfl⟩
theorem msgs_one (l : List Msg) : ∀ x ∈ l.map eMsg, x.cells.length = 8 ∧ ∀ c ∈ x.cells, c.one = true := fun x hx => by
  obtain ⟨n, _, rfl⟩ := List.mem_map.1 hx; exact ⟨rfl, fun c hc => by simp [AV.cells, eMsg] at hc; rcases hc with rfl | rfl | rfl | rfl | rfl | rfl | rfl | rfl <;> rfl⟩
theorem XAt.seal {τ σ : St} {bx : Nat} {x : Sub} {ac qv : AV} {ra rq : Option Nat} (h : XAt τ σ bx x ac qv ra rq) {P : Program} {w0 : Base} {f : FuncId} {args : List AV} {K : AV → St → Prop} (hk : ∀ s, St.Le τ s → s.box bx = some (xc x (eInts x.acks) (eMsgs x.queue)) → CallW P w0 f args s K) : CallW P w0 f args σ K := by
  have step1 : ∀ σ1, St.Le τ σ1 → σ1.box bx = some (xc x (eInts x.acks) qv) → RowV σ1 8 (x.queue.map eMsg) qv rq → CallW P w0 f args σ1 K := by
    intro σ1 hl hb hq
    cases hq with
    | nil h0 =>
      refine CallW.sealNil (sz := 8) (pre := [.int .i64 x.id, .str x.name, .str x.topic, .str x.want, .int .i64 x.lease, .int .i64 x.most, .int .i64 x.floor, eInts x.acks]) (post := [.str x.note]) hb (hk _ (le_setBox hl h.bxn) ?_)
      rw [setBox_same, eMsgs, h0]; rfl
    | own b cap junk hbb hc hl2 =>
      refine CallW.seal (sz := 8) (pre := [.int .i64 x.id, .str x.name, .str x.topic, .str x.want, .int .i64 x.lease, .int .i64 x.most, .int .i64 x.floor, eInts x.acks]) (post := [.str x.note]) hb hbb (Ne.symm (h.qn _ rfl).2) (msgs_one _) (hk _ (le_setBox (le_del hl (h.qn _ rfl).1) h.bxn) ?_)
      rw [setBox_same]; rfl
  cases ha : h.a with
  | nil h0 =>
    refine CallW.sealNil (sz := 1) (pre := [.int .i64 x.id, .str x.name, .str x.topic, .str x.want, .int .i64 x.lease, .int .i64 x.most, .int .i64 x.floor]) (post := [qv, .str x.note]) h.hbx (step1 _ (le_setBox h.le h.bxn) ?_ (h.q.set fun e => (h.qn _ e).2 rfl))
    rw [setBox_same, eInts, h0]; rfl
  | own b cap junk hbb hc hl2 =>
    refine CallW.seal (sz := 1) (pre := [.int .i64 x.id, .str x.name, .str x.topic, .str x.want, .int .i64 x.lease, .int .i64 x.most, .int .i64 x.floor]) (post := [qv, .str x.note]) h.hbx hbb (Ne.symm (h.an _ rfl).2) (ints_one _) (step1 _ (le_setBox (le_del h.le (h.an _ rfl).1) h.bxn) ?_ ?_)
    · rw [setBox_same]; rfl
    · exact (h.q.keep fun c cs e hcc => by rw [del_ne (fun e2 => h.aq _ rfl (by rw [e, e2]))]; exact hcc).set fun e => (h.qn _ e).2 rfl
end Go.Proofs.YtkbmkhhcppfcnaaDoor
end
section
set_option linter.unusedVariables false
set_option linter.unusedSimpArgs false
set_option maxRecDepth 100000
set_option maxHeartbeats 1000000
namespace Go.Proofs.YtkbmkhhcppfcnaaDoor
open Go.Al Go.RowKit
theorem rising1_any (w0 : Base) (l : List Row) (tk : Tok) (hl : l.length ≤ 1000000) : CallP Tryd.prog w0 67 [.slc 2 (l.map eRow) tk] (.bool (upTo l l.length)) := by
  refine CallP.x Ty.tok Ty.mixed Tryd.func67 rfl Tryd.ntmps67 rfl (by simp) (by decide +kernel) fun σ => ?_
  (conv => whnf)
  skip
  refine SLoop.by Ty.mixed (fun i => l.length - i) (fun i => [(0, .slc 2 (l.map eRow) .no), (5, .int .i64 l.length), (6, .int .i64 i)]) (fun _ => []) (fun i s => i ≤ l.length ∧ upTo l i = true ∧ s = σ) 0 ⟨?_, BSub.none _, Nat.zero_le _, rfl, rfl⟩ ?_
  · show xWeak [(0, .slc 2 (l.map eRow) .no), (5, .int .i64 l.length), (6, .int .i64 (0 : Nat))] _
    rw [List.length_map]
    repeat (first | exact trivial | refine ⟨by first | trivial | exact Weak.refl _ | exact Weak.tok _ _ _ | exact Weak.of_eq (congrArg (AV.int _) (by omega)) | exact Weak.of_eq (congrArg AV.bool (by fail)) | exact Weak.nils _ _ (.inr rfl), ?_⟩)
  rintro i s ⟨hi, hu, rfl⟩; (conv => whnf)
  skip
  (refine SIf.x Ty.mixed (fun hc => ?_) (fun hc => ?_) <;> (conv => whnf))
  · have hlt : i < l.length := by simp at hc; omega
    have ga : l[i]? = some l[i] := by simp [hlt]
    have hup : upTo l (i + 1) = (upTo l i && (decide (i = 0) || !leS ((l[i]?.getD ⟨[], []⟩).key) ((l[i - 1]?.getD ⟨[], []⟩).key))) := rfl
    by_cases h0 : i = 0
    · subst h0
      have d3 : decide ((0 : Int) < ((0 : Nat) : Int)) = false := rfl
      refine SReg.d [0, 1, 2, 3, 4, 5, 6, 7, 8, 9, 10, 11, 12, 13, 14, 15] [0, 0, 0, 0, 0, 0, 0, 0, 0, 0, 0, 0, 0, 0, 0, 0] (by decide +kernel) ?_; (conv => whnf); (conv => whnf); refine SCond.n (by exact rfl) ?_; (conv => whnf); refine SCond.n (by exact rfl) ?_; (conv => whnf); refine SCond.n (by exact rfl) ?_; (conv => whnf); refine SCond.n (by exact rfl) ?_; (conv => whnf); refine SCond.n (by exact rfl) ?_; (conv => whnf); refine SCond.n (by exact rfl) ?_; (conv => whnf)
      refine SCond.n (by exact rfl) ?_; (conv => whnf); refine SCond.n (by exact rfl) ?_; (conv => whnf); refine SCond.n (by exact rfl) ?_; (conv => whnf); refine SCond.n (by exact rfl) ?_; (conv => whnf); refine SCond.n (by exact rfl) ?_; (conv => whnf); refine SCond.n (by exact rfl) ?_; (conv => whnf); refine SPick.n (by exact rfl) ?_; (conv => whnf); refine SIf.n Ty.mixed (by exact rfl) ?_
      (conv => whnf); refine ⟨_, IntWalk.i64_in _ (by omega), ?_⟩; (conv => whnf)
      exact ⟨0 + 1, by omega, ⟨by repeat (first | exact trivial | refine ⟨by first | trivial | exact Weak.refl _ | exact Weak.tok _ _ _ | exact Weak.of_eq (congrArg (AV.int _) (by omega)) | exact Weak.of_eq (congrArg AV.bool (by fail)) | exact Weak.nils _ _ (.inr rfl), ?_⟩), BSub.none _, by omega, rfl, rfl⟩⟩
    · have d3 : decide ((0 : Int) < (i : Int)) = true := decide_eq_true (by omega)
      have gp : l[((i : Int) - 1).toNat]? = some (l[i - 1]'(by omega)) := by rw [show ((i : Int) - 1).toNat = i - 1 by omega]; simp
      have gp' : l[i - 1]? = some (l[i - 1]'(by omega)) := by simp
      rw [hu, ga, gp', Option.getD_some, Option.getD_some] at hup
      generalize l[i] = x at ga hup
      generalize l[i - 1]'(by omega) = y at gp hup gp'
      refine SReg.d [0, 1, 2, 3, 4, 5, 6, 7, 8, 9, 10, 11, 12, 13, 14, 15] [0, 0, 0, 0, 0, 0, 0, 0, 0, 0, 0, 0, 0, 0, 0, 0] (by decide +kernel) ?_; (conv => whnf); (conv => whnf); refine SCond.y (by assumption) ?_; (conv => whnf); refine SCond.y (by assumption) ?_; (conv => whnf); refine SCond.y (by assumption) ?_; (conv => whnf)
      refine ⟨_, ⟨by first | omega | (simp only [List.length_cons, List.length_append, List.length_nil, List.length_map, length_aBytes, List.length_replicate, List.length_range]; omega) | fail, by first | exact get_map ga | exact get_map gp | fail⟩, ?_⟩
      (conv => whnf); refine SCond.y (by assumption) ?_; (conv => whnf); refine SCond.y (by assumption) ?_; (conv => whnf); refine SCond.y (by assumption) ?_; (conv => whnf); refine SCond.y (by assumption) ?_; (conv => whnf); refine SCond.y (by assumption) ?_; (conv => whnf); refine ⟨_, IntWalk.i64_in _ (by omega), ?_⟩; (conv => whnf); refine SCond.y (by assumption) ?_; (conv => whnf)
      refine ⟨_, ⟨by first | omega | (simp only [List.length_cons, List.length_append, List.length_nil, List.length_map, length_aBytes, List.length_replicate, List.length_range]; omega) | fail, by first | exact get_map ga | exact get_map gp | fail⟩, ?_⟩
      (conv => whnf); refine SCond.y (by assumption) ?_; (conv => whnf); refine SCond.y (by assumption) ?_; (conv => whnf); refine SCond.y (by assumption) ?_; (conv => whnf); refine SPick.y (by assumption) ?_; (conv => whnf)
      (refine SIf.x Ty.mixed (fun hc => ?_) (fun hc => ?_) <;> (conv => whnf))
      · skip
        refine .p (.refl _) ?_
        have : upTo l (i + 1) = false := by rw [hup]; simp only [leS]; rw [hc]; simp [h0]
        rw [upTo_false (show i + 1 ≤ l.length by omega) this]
      · refine ⟨_, IntWalk.i64_in _ (by omega), ?_⟩
        (conv => whnf)
        refine ⟨i + 1, by omega, ⟨by repeat (first | exact trivial | refine ⟨by first | trivial | exact Weak.refl _ | exact Weak.tok _ _ _ | exact Weak.of_eq (congrArg (AV.int _) (by omega)) | exact Weak.of_eq (congrArg AV.bool (by fail)) | exact Weak.nils _ _ (.inr rfl), ?_⟩), BSub.none _, by omega, ?_, rfl⟩⟩
        rw [hup]; simp only [leS]; rw [hc]; simp
  · have hge : i = l.length := by simp at hc; omega
    subst hge
    skip
    exact .p (.refl _) (by rw [hu])
theorem eqRows1_any (w0 : Base) (a b : List Row) (ta tb : Tok) (ha : a.length ≤ 1000000000) : CallP Tryd.prog w0 49 [.slc 2 (a.map eRow) ta, .slc 2 (b.map eRow) tb, .fn (.func 68) [] []] (.bool (decide (a = b))) := by
  refine CallP.x Ty.tok Ty.mixed Tryd.func49 rfl Tryd.ntmps49 rfl (by simp) (by decide +kernel) fun σ => ?_
  (conv => whnf)
  skip
  (refine SIf.x Ty.mixed (fun hc => ?_) (fun hc => ?_) <;> (conv => whnf))
  · skip
    refine .p (.refl _) ?_
    have : ¬ a = b := by rintro rfl; simp at hc
    simp [this]
  · have hlen : a.length = b.length := by simp at hc; omega
    clear hc
    skip
    refine SLoop.by Ty.mixed (fun i => a.length - i) (fun i => [(1, .slc 2 (b.map eRow) .no), (2, .fn (.func 68) [] []), (15, .slc 2 (a.map eRow) .no), (16, .int .i64 a.length), (17, .int .i64 i)]) (fun _ => []) (fun i s => i ≤ a.length ∧ St.Le σ s ∧ a.take i = b.take i) 0 ⟨?_, BSub.none _, Nat.zero_le _, by repeat (first | assumption | exact .refl _ | refine le_setBox ?_ (by first | assumption | exact none_in (by assumption) | exact none_in (none_in (by assumption)) | exact none_in (none_in (none_in (by assumption))) | fail) | exact Moves.le (by assumption) | refine .trans ?_ (Moves.le (by assumption))), by simp⟩ ?_
    · show xWeak [(1, .slc 2 (b.map eRow) .no), (2, .fn (.func 68) [] []), (15, .slc 2 (a.map eRow) .no), (16, .int .i64 a.length), (17, .int .i64 (0 : Nat))] _
      rw [List.length_map]
      repeat (first | exact trivial | refine ⟨by first | trivial | exact Weak.refl _ | exact Weak.tok _ _ _ | exact Weak.of_eq (congrArg (AV.int _) (by omega)) | exact Weak.of_eq (congrArg AV.bool (by fail)) | exact Weak.nils _ _ (.inr rfl), ?_⟩)
    rintro i s ⟨hi, hle, htk⟩; (conv => whnf)
    skip
    (refine SIf.x Ty.mixed (fun hc => ?_) (fun hc => ?_) <;> (conv => whnf))
    · have hlt : i < a.length := by simp at hc; omega
      have ga : a[i]? = some a[i] := by simp [hlt]
      have gb : b[i]? = some (b[i]'(by omega)) := List.getElem?_eq_getElem (by omega)
      have ht := take_succ_iff hlt (show i < b.length by omega) htk
      generalize a[i] = x at ga ht
      generalize b[i]'(by omega) = y at gb ht
      clear hc
      refine ⟨_, ⟨by first | omega | (simp only [List.length_cons, List.length_append, List.length_nil, List.length_map, length_aBytes, List.length_replicate, List.length_range]; omega) | fail, by first | exact get_map ga | exact get_map gb | fail⟩, ?_⟩
      (conv => whnf); intro b1 hb1; (conv => whnf); refine SStore.on 0 rfl ?_; (conv => whnf)
      refine ⟨_, ⟨by first | omega | (simp only [List.length_cons, List.length_append, List.length_nil, List.length_map, length_aBytes, List.length_replicate, List.length_range]; omega) | fail, by first | exact get_map ga | exact get_map gb | fail⟩, ?_⟩
      (conv => whnf); intro b1 hb1; (conv => whnf); refine SStore.on 0 rfl ?_; (conv => whnf); refine SLoad.on 1 rfl ?_; (conv => whnf); refine SLoad.on 0 rfl ?_; (conv => whnf); refine SCall.p (by exact same1_any w0 _ _) ?_; (conv => whnf)
      (refine SIf.x Ty.mixed (fun hc => ?_) (fun hc => ?_) <;> (conv => whnf))
      · skip
        refine .p (by repeat (first | assumption | exact .refl _ | refine le_new2 ?_ (by assumption) | refine le_new ?_ (by assumption) | refine le_setBox ?_ (by first | assumption | exact none_in (by assumption) | exact none_in (none_in (by assumption)) | exact none_in (none_in (none_in (by assumption))) | fail) | exact Moves.le (by assumption) | refine .trans ?_ (Moves.le (by assumption)))) ?_
        have : ¬ a = b := fun e => by subst e; rw [ga] at gb; cases gb; simp at hc
        simp [this]
      · have hxy : x = y := by simpa using hc
        refine ⟨_, IntWalk.i64_in _ (by omega), ?_⟩; (conv => whnf)
        exact ⟨i + 1, by omega, by repeat (first | exact trivial | refine ⟨by first | trivial | exact Weak.refl _ | exact Weak.tok _ _ _ | exact Weak.of_eq (congrArg (AV.int _) (by omega)) | exact Weak.of_eq (congrArg AV.bool (by fail)) | exact Weak.nils _ _ (.inr rfl), ?_⟩), BSub.none _, by omega, by repeat (first | assumption | exact .refl _ | refine le_new2 ?_ (by assumption) | refine le_new ?_ (by assumption) | refine le_setBox ?_ (by first | assumption | exact none_in (by assumption) | exact none_in (none_in (by assumption)) | exact none_in (none_in (none_in (by assumption))) | fail) | exact Moves.le (by assumption) | refine .trans ?_ (Moves.le (by assumption))), ht.2 hxy⟩
    · have hge : i = a.length := by simp at hc; omega
      skip
      refine .p (by repeat (first | assumption | exact .refl _ | refine le_new2 ?_ (by assumption) | refine le_new ?_ (by assumption) | refine le_setBox ?_ (by first | assumption | exact none_in (by assumption) | exact none_in (none_in (by assumption)) | exact none_in (none_in (none_in (by assumption))) | fail) | exact Moves.le (by assumption) | refine .trans ?_ (Moves.le (by assumption)))) ?_
      have : a = b := by rw [hge, List.take_length, hlen, List.take_length] at htk; exact htk
      simp [this]
end Go.Proofs.YtkbmkhhcppfcnaaDoor
end
section
set_option linter.unusedVariables false
set_option linter.unusedSimpArgs false
set_option maxRecDepth 100000
set_option maxHeartbeats 1000000
namespace Go.Proofs.YtkbmkhhcppfcnaaDoor
open Go.Al Go.RowKit
def dc (x : Sub) (ac qv : AV) (sq : Int) (rp : AV) : List AV := [.int .i64 x.id, .str x.name, .str x.topic, .str x.want, .int .i64 x.lease, .int .i64 x.most, .int .i64 x.floor, ac, qv, .str x.note, .int .i64 sq, rp]
structure DAt (τ σ : St) (bx : Nat) (x : Sub) (ac qv : AV) (ra rq : Option Nat) (sq : Int) (rp : AV) : Prop where
  le : St.Le τ σ
  hbx : σ.box bx = some (dc x ac qv sq rp)
  bxn : τ.box bx = none
  a : RowV σ 1 (x.acks.map (AV.int .i64)) ac ra
  q : RowV σ 8 (x.queue.map eMsg) qv rq
  an : ∀ b, ra = some b → τ.box b = none ∧ b ≠ bx
  qn : ∀ b, rq = some b → τ.box b = none ∧ b ≠ bx
  aq : ∀ b, ra = some b → rq ≠ some b
section
variable {τ σ σ' : St} {bx : Nat} {x : Sub} {ac qv : AV} {ra rq : Option Nat} {sq : Int} {rp : AV}
theorem DAt.ra_ne (h : DAt τ σ bx x ac qv ra rq sq rp) {c : Nat} (hc : σ.box c = none) : ra ≠ some c := by
  intro e; subst e; exact RowV.has h.a hc
theorem DAt.rq_ne (h : DAt τ σ bx x ac qv ra rq sq rp) {c : Nat} (hc : σ.box c = none) : rq ≠ some c := by
  intro e; subst e; exact RowV.has h.q hc
theorem DAt.ne (h : DAt τ σ bx x ac qv ra rq sq rp) {c : Nat} (hc : σ.box c = none) : c ≠ bx := fun e => by rw [e, h.hbx] at hc; cases hc
theorem DAt.other (h : DAt τ σ bx x ac qv ra rq sq rp) {c : Nat} (hc : τ.box c = none) (h1 : c ≠ bx) (h2 : ra ≠ some c) (h3 : rq ≠ some c) (ds : List AV) : DAt τ (σ.setBox c ds) bx x ac qv ra rq sq rp :=
  ⟨le_setBox h.le hc, by rw [setBox_ne (Ne.symm h1)]; exact h.hbx, h.bxn, h.a.set h2, h.q.set h3, h.an, h.qn, h.aq⟩
theorem DAt.fresh (h : DAt τ σ bx x ac qv ra rq sq rp) {c : Nat} (hc : σ.box c = none) (ds : List AV) : DAt τ (σ.setBox c ds) bx x ac qv ra rq sq rp := h.other (le_none h.le hc) (h.ne hc) (h.ra_ne hc) (h.rq_ne hc) ds
theorem DAt.own (h : DAt τ σ bx x ac qv ra rq sq rp) (y : Sub) (s2 : Int) (r2 : AV) (ha : y.acks = x.acks) (hq : y.queue = x.queue) : DAt τ (σ.setBox bx (dc y ac qv s2 r2)) bx y ac qv ra rq s2 r2 :=
  ⟨le_setBox h.le h.bxn, setBox_same, h.bxn, by rw [ha]; exact h.a.set (fun e => (h.an _ e).2 rfl), by rw [hq]; exact h.q.set (fun e => (h.qn _ e).2 rfl), h.an, h.qn, h.aq⟩
theorem DAt.obj (h : DAt τ σ bx x ac qv ra rq sq rp) {l : Nat} {q : Option Ob} (hl : τ.obj l = none) : DAt τ (σ.setObj l q) bx x ac qv ra rq sq rp :=
  ⟨le_setObj h.le hl, h.hbx, h.bxn, h.a.keep fun _ _ _ h => h, h.q.keep fun _ _ _ h => h, h.an, h.qn, h.aq⟩
theorem DAt.appA (h : DAt τ σ bx x ac qv ra rq sq rp) {n : Int} {b' n' cap' : Nat}
    (hR : RowV σ' 1 (x.acks.map (AV.int .i64) ++ [.int .i64 n]) (.msl b' 0 n' cap') (some b')) (hf : ra = some b' ∨ σ.box b' = none) (hk : ∀ i cs, ra ≠ some i → σ.box i = some cs → σ'.box i = some cs) (ht : σ'.tok = σ.tok ∧ σ'.obj = σ.obj) :
    DAt τ (σ'.setBox bx (dc { x with acks := x.acks ++ [n] } (.msl b' 0 n' cap') qv sq rp)) bx { x with acks := x.acks ++ [n] } (.msl b' 0 n' cap') qv (some b') rq sq rp := by
  have hb : τ.box b' = none ∧ b' ≠ bx ∧ rq ≠ some b' := by
    rcases hf with hf | hf
    · exact ⟨(h.an _ hf).1, (h.an _ hf).2, h.aq _ hf⟩
    · exact ⟨le_none h.le hf, h.ne hf, h.rq_ne hf⟩
  obtain ⟨hb1, hb2, hb3⟩ := hb
  refine ⟨le_setBox ⟨fun i cs e => hk i cs (fun e2 => ?_) (h.le.box i cs e), fun p e => by rw [ht.1]; exact h.le.tok p e, fun l o e => by rw [ht.2]; exact h.le.obj l o e⟩ h.bxn, setBox_same, h.bxn, ?_, ?_, fun b e => ?_, h.qn, fun b e => ?_⟩
  · have := (h.an _ e2).1
    rw [e] at this; cases this
  · have e1 : ({ x with acks := x.acks ++ [n] } : Sub).acks.map (AV.int .i64) = x.acks.map (AV.int .i64) ++ [.int .i64 n] := by simp
    rw [e1]
    exact hR.set (fun e => hb2 (Option.some.inj e))
  · exact (h.q.keep fun b cs e hbb => hk b cs (fun e2 => h.aq _ e2 e) hbb).set fun e => (h.qn _ e).2 rfl
  · cases e; exact ⟨hb1, hb2⟩
  · cases e; exact hb3
theorem DAt.appQ (h : DAt τ σ bx x ac qv ra rq sq rp) {m : Msg} {b' n' cap' : Nat}
    (hR : RowV σ' 8 (x.queue.map eMsg ++ [eMsg m]) (.msl b' 0 n' cap') (some b')) (hf : rq = some b' ∨ σ.box b' = none) (hk : ∀ i cs, rq ≠ some i → σ.box i = some cs → σ'.box i = some cs) (ht : σ'.tok = σ.tok ∧ σ'.obj = σ.obj) :
    DAt τ (σ'.setBox bx (dc { x with queue := x.queue ++ [m] } ac (.msl b' 0 n' cap') sq rp)) bx { x with queue := x.queue ++ [m] } ac (.msl b' 0 n' cap') ra (some b') sq rp := by
  have hb : τ.box b' = none ∧ b' ≠ bx ∧ ra ≠ some b' := by
    rcases hf with hf | hf
    · exact ⟨(h.qn _ hf).1, (h.qn _ hf).2, fun e => h.aq _ e hf⟩
    · exact ⟨le_none h.le hf, h.ne hf, h.ra_ne hf⟩
  obtain ⟨hb1, hb2, hb3⟩ := hb
  refine ⟨le_setBox ⟨fun i cs e => hk i cs (fun e2 => ?_) (h.le.box i cs e), fun p e => by rw [ht.1]; exact h.le.tok p e, fun l o e => by rw [ht.2]; exact h.le.obj l o e⟩ h.bxn, setBox_same, h.bxn, ?_, ?_, h.an, fun b e => ?_, fun b e e2 => ?_⟩
  · have := (h.qn _ e2).1
    rw [e] at this; cases this
  · exact (h.a.keep fun b cs e hbb => hk b cs (fun e2 => h.aq _ e e2) hbb).set fun e => (h.an _ e).2 rfl
  · have e1 : ({ x with queue := x.queue ++ [m] } : Sub).queue.map eMsg = x.queue.map eMsg ++ [eMsg m] := by simp
    rw [e1]
    exact hR.set (fun e => hb2 (Option.some.inj e))
  · cases e; exact ⟨hb1, hb2⟩
  · cases e2; exact hb3 e
theorem DAt.know {τ s : St} (h : DAt τ s bx x ac qv ra rq sq rp) {B : BL} (hB : Know τ B) : Know s ((bx, dc x ac qv sq rp) :: B) := ⟨fun p hp => by
  rcases List.mem_cons.1 hp with rfl | hp
  · exact h.hbx
  · exact h.le.box _ _ (hB.has p hp), by
  rw [List.map_cons, List.nodup_cons]
  refine ⟨fun hm => ?_, hB.nd⟩
  obtain ⟨p, hp, e⟩ := List.mem_map.1 hm
  have := hB.has p hp
  rw [e, h.bxn] at this; cases this⟩
theorem DAt.seal (h : DAt τ σ bx x ac qv ra rq sq rp) {P : Program} {w0 : Base} {f : FuncId} {args : List AV} {K : AV → St → Prop} (hk : ∀ s, St.Le τ s → s.box bx = some (dc x (eInts x.acks) (eMsgs x.queue) sq rp) → CallW P w0 f args s K) : CallW P w0 f args σ K := by
  have step1 : ∀ σ1, St.Le τ σ1 → σ1.box bx = some (dc x (eInts x.acks) qv sq rp) → RowV σ1 8 (x.queue.map eMsg) qv rq → CallW P w0 f args σ1 K := by
    intro σ1 hl hb hq
    cases hq with
    | nil h0 =>
      refine CallW.sealNil (sz := 8) (pre := [.int .i64 x.id, .str x.name, .str x.topic, .str x.want, .int .i64 x.lease, .int .i64 x.most, .int .i64 x.floor, eInts x.acks]) (post := [.str x.note, .int .i64 sq, rp]) hb (hk _ (le_setBox hl h.bxn) ?_)
      rw [setBox_same, eMsgs, h0]; rfl
    | own b cap junk hbb hc hl2 =>
      refine CallW.seal (sz := 8) (pre := [.int .i64 x.id, .str x.name, .str x.topic, .str x.want, .int .i64 x.lease, .int .i64 x.most, .int .i64 x.floor, eInts x.acks]) (post := [.str x.note, .int .i64 sq, rp]) hb hbb (Ne.symm (h.qn _ rfl).2) (msgs_one _) (hk _ (le_setBox (le_del hl (h.qn _ rfl).1) h.bxn) ?_)
      rw [setBox_same]; rfl
  cases ha : h.a with
  | nil h0 =>
    refine CallW.sealNil (sz := 1) (pre := [.int .i64 x.id, .str x.name, .str x.topic, .str x.want, .int .i64 x.lease, .int .i64 x.most, .int .i64 x.floor]) (post := [qv, .str x.note, .int .i64 sq, rp]) h.hbx (step1 _ (le_setBox h.le h.bxn) ?_ (h.q.set fun e => (h.qn _ e).2 rfl))
    rw [setBox_same, eInts, h0]; rfl
  | own b cap junk hbb hc hl2 =>
    refine CallW.seal (sz := 1) (pre := [.int .i64 x.id, .str x.name, .str x.topic, .str x.want, .int .i64 x.lease, .int .i64 x.most, .int .i64 x.floor]) (post := [qv, .str x.note, .int .i64 sq, rp]) h.hbx hbb (Ne.symm (h.an _ rfl).2) (ints_one _) (step1 _ (le_setBox (le_del h.le (h.an _ rfl).1) h.bxn) ?_ ?_)
    · rw [setBox_same]; rfl
    · exact (h.q.keep fun c cs e hcc => by rw [del_ne (fun e2 => h.aq _ rfl (by rw [e, e2]))]; exact hcc).set fun e => (h.qn _ e).2 rfl
end
theorem dack_any (w0 : Base) (x : Sub) (ac qv : AV) (ra rq : Option Nat) (sq : Int) (rp : AV) (hrp : rp = .nilp ∨ ∃ br, rp = .ptr br 0) (τ σ : St) (bd : Nat) (hn : x.acks.length ≤ 1000000) (hx : DAt τ σ bd x ac qv ra rq sq rp) :
    CallW Tryd.prog w0 61 [.ptr bd 0] σ (fun r s => r = .tup [] ∧ ∃ ac' ra', DAt τ s bd { x with acks := x.acks ++ [sq] } ac' qv ra' rq sq rp) := by
  refine CallW.x (B := [(bd, dc x ac qv sq rp)]) Ty.tok Ty.mixed Tryd.func61 rfl Tryd.ntmps61 rfl (by simp) (by decide +kernel) ⟨by simp [hx.hbx], by simp⟩ ?_
  have hx' := hx
  obtain ⟨_, _, _, hxa, _⟩ := hx'
  cases hxa with
  | nil h0 =>
    (conv => whnf); refine SReg.d [0, 1, 2, 3, 4, 6, 7, 8, 5, 9, 10, 11, 12, 13, 14, 15] [0, 0, 0, 0, 0, 1, 0, 0, 0, 1, 0, 2, 0, 0, 0, 2] (by decide +kernel) ?_; (conv => whnf); (conv => whnf); refine SLoad.on 0 rfl ?_; (conv => whnf); refine SLoad.on 0 rfl ?_; (conv => whnf)
    refine SApp.row rfl hx.a rfl (ints_sz _) rfl (by simp only [List.length_map]; omega) (by simp) fun b' cap' σ' q1 q2 q3 q4 => ?_
    (conv => whnf); refine SStore.on 0 rfl ?_; (conv => whnf); exact .w ⟨rfl, _, _, hx.appA q1 q2 q3 q4⟩
  | own b cap junk hb hc hl =>
    (conv => whnf); refine SReg.d [0, 1, 2, 3, 4, 6, 7, 8, 5, 9, 10, 11, 12, 13, 14, 15] [0, 0, 0, 0, 0, 1, 0, 0, 0, 1, 0, 2, 0, 0, 0, 2] (by decide +kernel) ?_; (conv => whnf); (conv => whnf); refine SLoad.on 0 rfl ?_; (conv => whnf); refine SLoad.on 0 rfl ?_; (conv => whnf)
    refine SApp.row rfl hx.a rfl (ints_sz _) rfl (by simp only [List.length_map]; omega) (by simp only [List.mem_cons, List.not_mem_nil, or_false, forall_eq]; exact fun e => (hx.an _ e).2 rfl) fun b' cap' σ' q1 q2 q3 q4 => ?_
    (conv => whnf); refine SStore.on 0 rfl ?_; (conv => whnf); exact .w ⟨rfl, _, _, hx.appA q1 q2 q3 q4⟩
end Go.Proofs.YtkbmkhhcppfcnaaDoor
end
section
set_option linter.unusedVariables false
set_option linter.unusedSimpArgs false
set_option maxRecDepth 100000
set_option maxHeartbeats 1000000
namespace Go.Proofs.YtkbmkhhcppfcnaaDoor
open Go.Al Go.RowKit
theorem dnote_any (w0 : Base) (v : List UInt8) (x : Sub) (ac qv : AV) (ra rq : Option Nat) (sq : Int) (τ σ : St) (bd br : Nat) (hv : v.length ≤ 1000000) (hx : DAt τ σ bd x ac qv ra rq sq (.ptr br 0)) (hr : σ.box br = some (rd2 v (0, false))) (hrn : τ.box br = none) (hne : br ≠ bd) (h1 : ra ≠ some br) (h2 : rq ≠ some br) :
    CallW Tryd.prog w0 62 [.ptr bd 0] σ (fun r s => r = .tup [] ∧ DAt τ s bd { x with note := (t2 v (0, false) 30).1 } ac qv ra rq sq (.ptr br 0)) := by
  refine CallW.x (B := [(br, rd2 v (0, false)), (bd, dc x ac qv sq (.ptr br 0))]) Ty.tok Ty.mixed Tryd.func62 rfl Tryd.ntmps62 rfl (by simp) (by decide +kernel) ⟨by simp [hr, hx.hbx], by simp [hne]⟩ ?_
  (conv => whnf); refine SLoad.on 1 rfl ?_; (conv => whnf); refine SCall.b 0 (fun hb => by exact rtext1_any w0 v _ 30 br _ hv (Nat.zero_le _) (by decide) hb) rfl rfl ?_; (conv => whnf); refine SStore.on 1 rfl ?_; (conv => whnf); exact .w ⟨rfl, (hx.other hrn hne h1 h2 _).own { x with note := (t2 v (0, false) 30).1 } sq _ rfl rfl⟩
theorem dwant_any (w0 : Base) (v : List UInt8) (x : Sub) (ac qv : AV) (ra rq : Option Nat) (sq : Int) (τ σ : St) (bd br : Nat) (hv : v.length ≤ 1000000) (hx : DAt τ σ bd x ac qv ra rq sq (.ptr br 0)) (hr : σ.box br = some (rd2 v (0, false))) (hrn : τ.box br = none) (hne : br ≠ bd) (h1 : ra ≠ some br) (h2 : rq ≠ some br) :
    CallW Tryd.prog w0 65 [.ptr bd 0] σ (fun r s => r = .tup [] ∧ DAt τ s bd { x with want := (t2 v (0, false) 30).1 } ac qv ra rq sq (.ptr br 0)) := by
  refine CallW.x (B := [(br, rd2 v (0, false)), (bd, dc x ac qv sq (.ptr br 0))]) Ty.tok Ty.mixed Tryd.func65 rfl Tryd.ntmps65 rfl (by simp) (by decide +kernel) ⟨by simp [hr, hx.hbx], by simp [hne]⟩ ?_
  (conv => whnf); refine SLoad.on 1 rfl ?_; (conv => whnf); refine SCall.b 0 (fun hb => by exact rtext1_any w0 v _ 30 br _ hv (Nat.zero_le _) (by decide) hb) rfl rfl ?_; (conv => whnf); refine SStore.on 1 rfl ?_; (conv => whnf); exact .w ⟨rfl, (hx.other hrn hne h1 h2 _).own { x with want := (t2 v (0, false) 30).1 } sq _ rfl rfl⟩
theorem dsub_any (w0 : Base) (v : List UInt8) (x : Sub) (ac qv : AV) (ra rq : Option Nat) (sq : Int) (τ σ : St) (bd br : Nat) (hv : v.length ≤ 1000000) (hx : DAt τ σ bd x ac qv ra rq sq (.ptr br 0)) (hr : σ.box br = some (rd2 v (0, false))) (hrn : τ.box br = none) (hne : br ≠ bd) (h1 : ra ≠ some br) (h2 : rq ≠ some br) :
    CallW Tryd.prog w0 64 [.ptr bd 0] σ (fun r s => r = .tup [] ∧ DAt τ s bd (sS1 v x) ac qv ra rq sq (.ptr br 0)) := by
  refine CallW.x (B := [(br, rd2 v (0, false)), (bd, dc x ac qv sq (.ptr br 0))]) Ty.tok Ty.mixed Tryd.func64 rfl Tryd.ntmps64 rfl (by simp) (by decide +kernel) ⟨by simp [hr, hx.hbx], by simp [hne]⟩ ?_
  have f1 := t2_far v (0, false) 30
  have f2 := t2_far v (t2 v (0, false) 30).2 30
  have f3 := n2_far v (t2 v (t2 v (0, false) 30).2 30).2
  have f4 := n2_far v (n2 v (t2 v (t2 v (0, false) 30).2 30).2).2
  have hbd := Ne.symm hne
  (conv => whnf); refine SReg.h 1 rfl [0, 1, 2, 3, 4, 7, 8, 9, 5, 10, 6, 11, 12, 13, 14, 15, 16, 17, 18, 19] [0, 0, 0, 0, 0, 3, 4, 0, 0, 0, 3, 4, 0, 0, 0, 2, 0, 0, 0, 2] (by decide +kernel) ?_; (conv => whnf); (conv => whnf); refine SLoadH.on 1 rfl rfl ?_; (conv => whnf); refine SLoadH.on 1 rfl rfl ?_; (conv => whnf)
  refine SCall.bH 0 (fun hb => by first | exact rtext1_any w0 v _ 30 br _ hv (by first | exact Nat.zero_le _ | omega) (by decide) hb | exact rnum1_any w0 v _ br _ hv (by omega) hb) rfl rfl (by intro p hp; cases hp; assumption) ?_; (conv => whnf)
  refine SCall.bH 0 (fun hb => by first | exact rtext1_any w0 v _ 30 br _ hv (by first | exact Nat.zero_le _ | omega) (by decide) hb | exact rnum1_any w0 v _ br _ hv (by omega) hb) rfl rfl (by intro p hp; cases hp; assumption) ?_; (conv => whnf); refine SStore.on 1 rfl ?_; (conv => whnf); refine SStore.on 1 rfl ?_; (conv => whnf)
  refine SReg.h 1 rfl [0, 1, 2, 3, 4, 5, 8, 9, 10, 13, 14, 15, 6, 11, 16, 7, 12, 17, 18, 19, 20, 21, 22, 23, 24, 25, 26, 27, 28, 29] [0, 0, 0, 0, 0, 0, 3, 4, 0, 0, 0, 3, 4, 0, 0, 0, 3, 4, 0, 0, 0, 2, 0, 0, 0, 2, 0, 0, 0, 2] (by decide +kernel) ?_; (conv => whnf); (conv => whnf); refine SLoadH.on 1 rfl rfl ?_; (conv => whnf); refine SLoadH.on 1 rfl rfl ?_; (conv => whnf); refine SLoadH.on 1 rfl rfl ?_; (conv => whnf)
  refine SCall.bH 0 (fun hb => by first | exact rtext1_any w0 v _ 30 br _ hv (by first | exact Nat.zero_le _ | omega) (by decide) hb | exact rnum1_any w0 v _ br _ hv (by omega) hb) rfl rfl (by intro p hp; cases hp; assumption) ?_; (conv => whnf)
  refine SCall.bH 0 (fun hb => by first | exact rtext1_any w0 v _ 30 br _ hv (by first | exact Nat.zero_le _ | omega) (by decide) hb | exact rnum1_any w0 v _ br _ hv (by omega) hb) rfl rfl (by intro p hp; cases hp; assumption) ?_; (conv => whnf)
  refine SCall.bH 0 (fun hb => by first | exact rtext1_any w0 v _ 30 br _ hv (by first | exact Nat.zero_le _ | omega) (by decide) hb | exact rnum1_any w0 v _ br _ hv (by omega) hb) rfl rfl (by intro p hp; cases hp; assumption) ?_; (conv => whnf); refine SStore.on 1 rfl ?_; (conv => whnf); refine SStore.on 1 rfl ?_; (conv => whnf); refine SStore.on 1 rfl ?_; (conv => whnf)
  have sc : ∀ (s : St) X Y, (s.setBox bd Y).setBox br X = (s.setBox br X).setBox bd Y := fun s X Y => setBox_comm hbd
  simp only [setBox_setBox, sc]
  exact .w ⟨rfl, (hx.other hrn hne h1 h2 _).own (sS1 v x) sq _ rfl rfl⟩
theorem dmsg_any (w0 : Base) (v : List UInt8) (x : Sub) (ac qv : AV) (ra rq : Option Nat) (sq : Int) (τ σ : St) (bd br : Nat) (hv : v.length ≤ 1000000) (hn : x.queue.length ≤ 1000000) (hx : DAt τ σ bd x ac qv ra rq sq (.ptr br 0)) (hr : σ.box br = some (rd2 v (0, false))) (hrn : τ.box br = none) (hne : br ≠ bd) (h1 : ra ≠ some br) (h2 : rq ≠ some br) :
    CallW Tryd.prog w0 63 [.ptr bd 0] σ (fun r s => r = .tup [] ∧ ∃ qv' rq', DAt τ s bd { x with queue := x.queue ++ [msg1 v sq] } ac qv' ra rq' sq (.ptr br 0)) := by
  refine CallW.x (B := [(br, rd2 v (0, false)), (bd, dc x ac qv sq (.ptr br 0))]) Ty.tok Ty.mixed Tryd.func63 rfl Tryd.ntmps63 rfl (by simp) (by decide +kernel) ⟨by simp [hr, hx.hbx], by simp [hne]⟩ ?_
  have f1 := t2_far v (0, false) 60
  have f2 := t2_far v (t2 v (0, false) 60).2 30
  have f3 := n2_far v (t2 v (t2 v (0, false) 60).2 30).2
  have f4 := n2_far v (n2 v (t2 v (t2 v (0, false) 60).2 30).2).2
  have hbd := Ne.symm hne
  have hs4 : ∃ s4, s4 = (n2 v (n2 v (t2 v (t2 v (0, false) 60).2 30).2).2).2 := ⟨_, rfl⟩
  obtain ⟨s4, hs4⟩ := hs4
  (conv => whnf); refine SReg.meet (fun bm => [(0, .ptr bd 0), (2, .ptr bm 0)]) (fun bm => [(bm, mc { msg1 v sq with dead := false }), (br, rd2 v s4), (bd, dc x ac qv sq (.ptr br 0))]) (fun bm s => σ.box bm = none ∧ s = (σ.setBox br (rd2 v s4)).setBox bm (mc { msg1 v sq with dead := false })) ?_ ?_
  · refine SReg.fl 1 rfl [] 25 [0, 1, 2, 3, 4, 5, 6, 7, 9, 10, 11, 12, 14, 15, 16, 17, 19, 20, 21, 22] [[8], [13], [18], [23, 24]] [26] [0, 0, 0, 3, 0, 0, 0, 3, 4, 0, 0, 0, 3, 4, 0, 0, 0, 3, 4, 0, 0, 0, 3, 4, 0, 4, 2] (by decide +kernel) ?_
    (conv => whnf)
    repeat' (first | ((first | refine SIf.y Ty.mixed (by first | exact rfl | assumption | fail) ?_ | refine SIf.n Ty.mixed (by first | exact rfl | assumption | fail) ?_ | refine SCond.y (by first | exact rfl | assumption | fail) ?_ | refine SCond.n (by first | exact rfl | assumption | fail) ?_ | refine SPick.y (by first | exact rfl | assumption | fail) ?_ | refine SPick.n (by first | exact rfl | assumption | fail) ?_ | refine SPick.b ?_ | refine SPick.i ?_ | refine SLoadH.on 0 rfl rfl ?_ | refine SLoadH.on 1 rfl rfl ?_ | refine SLoadH.on 2 rfl rfl ?_ | refine SLoadH.on 3 rfl rfl ?_ | refine SCall.bH 0 (fun hb => by first | exact rtext1_any w0 v _ 60 br _ hv (by first | exact Nat.zero_le _ | omega) (by decide) hb | exact rtext1_any w0 v _ 30 br _ hv (by omega) (by decide) hb | exact rnum1_any w0 v _ br _ hv (by omega) hb) rfl rfl (by (intro p hp; cases hp; first | assumption | exact Ne.symm (by assumption))) ?_ | refine SCall.bH 1 (fun hb => by first | exact rtext1_any w0 v _ 60 br _ hv (by first | exact Nat.zero_le _ | omega) (by decide) hb | exact rtext1_any w0 v _ 30 br _ hv (by omega) (by decide) hb | exact rnum1_any w0 v _ br _ hv (by omega) hb) rfl rfl (by (intro p hp; cases hp; first | assumption | exact Ne.symm (by assumption))) ?_ | refine SLoad.on 0 rfl ?_ | refine SLoad.on 1 rfl ?_ | refine SLoad.on 2 rfl ?_ | refine SLoad.on 3 rfl ?_ | refine SLoad.on 4 rfl ?_ | refine SLoad.on 5 rfl ?_ | refine SStore.on 0 rfl ?_ | refine SStore.on 1 rfl ?_ | refine SStore.on 2 rfl ?_ | refine SStore.on 3 rfl ?_ | refine SStore.on 4 rfl ?_ | refine SStore.on 5 rfl ?_ | refine SBox.f ?_ | refine SCall.p (by fail) ?_ | fail | refine SApp.c rfl rfl (by first | assumption | exact Moves.more (by assumption) (by assumption) | fail) (by first | (simp only [length_aBytes, List.length_append, List.length_cons, List.length_nil, List.length_map, List.length_range]; omega) | omega | fail) fun tk1 σ1 hm => ?_ | fail | refine And.intro (by first | omega | (simp only [List.length_cons, List.length_append, List.length_nil, List.length_map, length_aBytes, List.length_replicate, List.length_range]; omega) | fail) ?_ | refine ⟨_, ⟨by first | omega | (simp only [List.length_cons, List.length_append, List.length_nil, List.length_map, length_aBytes, List.length_replicate, List.length_range]; omega) | fail, by first | assumption | exact get_map (by assumption) | exact get_bytes (by assumption) | fail⟩, ?_⟩ | refine ⟨_, toBytes_aBytes _, ?_⟩ | refine ⟨_, by repeat (first | exact toB_nil | apply toB_cons | apply toB_consC _ (by first | omega | (simp only [List.length_cons, List.length_append, List.length_nil, List.length_map, length_aBytes, List.length_replicate, List.length_range]; omega) | fail)), ?_⟩ | refine ⟨_, IntWalk.i64_in _ (by first | omega | (simp only [List.length_cons, List.length_append, List.length_nil, List.length_map, length_aBytes, List.length_replicate, List.length_range]; omega) | fail), ?_⟩ | refine ⟨_, wrap_u8 _, ?_⟩ | refine ⟨_, rfl, ?_⟩ | intro bm hbm | fail); conv => whnf) | (refine And.intro ?_ ?_ <;> (conv => whnf)))
    all_goals
      have hb0 : σ.box bm = none := by first | exact hbm | exact (box_none hbm).1 | (simp only [setBox_setBox] at hbm; exact (box_none hbm).1)
      have hbb : bm ≠ br := fun e => by rw [e, hr] at hb0; cases hb0
      have sc : ∀ (s : St) X Y, (s.setBox bm Y).setBox br X = (s.setBox br X).setBox bm Y := fun s X Y => setBox_comm hbb
      refine ⟨bm, by repeat (first | exact trivial | refine ⟨by first | trivial | exact Weak.refl _ | exact Weak.tok _ _ _ | exact Weak.of_eq (congrArg (AV.int _) (by omega)) | exact Weak.of_eq (congrArg AV.bool (by fail)) | exact Weak.nils _ _ (.inr rfl), ?_⟩), ?_, hb0, ?_⟩
      · rw [hs4]; exact .refl _
      · rw [hs4]; simp only [setBox_setBox, sc]; rfl
  · rintro bm s ⟨hbm, rfl⟩ hK
    have hbb : bm ≠ br := fun e => by rw [e, hr] at hbm; cases hbm
    have hbn := le_none hx.le hbm
    have hq : ∀ X C Y D, DAt τ ((((σ.setBox br X).setBox bm C).setBox br Y).setBox bm D) bd x ac qv ra rq sq (.ptr br 0) := fun X C Y D => (((hx.other hrn hne h1 h2 X).other hbn (hx.ne hbm) (hx.ra_ne hbm) (hx.rq_ne hbm) C).other hrn hne h1 h2 Y).other hbn (hx.ne hbm) (hx.ra_ne hbm) (hx.rq_ne hbm) D
    have f5 : s4.1 ≤ 1000000 := by have := n2_far v (n2 v (t2 v (t2 v (0, false) 60).2 30).2).2; rw [← hs4] at this; omega
    have hx' := hq (rd2 v s4) (mc { msg1 v sq with dead := false }) (rd2 v s4) (mc { msg1 v sq with dead := false })
    obtain ⟨_, _, _, _, hxq, _⟩ := hx'
    cases hxq with
    | nil h0 =>
      (conv => whnf); refine SLoad.on 2 rfl ?_; (conv => whnf); refine SCall.b 1 (fun hb => by exact rnum1_any w0 v _ br _ hv f5 hb) rfl rfl ?_; (conv => whnf); refine SStore.on 0 rfl ?_; (conv => whnf); refine SReg.d [0, 1, 2, 3, 4, 5, 6, 7, 8, 9, 10, 11, 12] [0, 0, 0, 0, 0, 1, 1, 0, 2, 0, 0, 0, 2] (by decide +kernel) ?_; (conv => whnf); (conv => whnf); refine SLoad.on 2 rfl ?_; (conv => whnf); refine SLoad.on 0 rfl ?_; (conv => whnf)
      refine SApp.row rfl (hq _ _ _ _).q rfl (msgs_sz _) rfl (by simp only [List.length_map]; omega) (by simp) fun b' cap' σ' q1 q2 q3 q4 => ?_
      (conv => whnf); refine SStore.on 2 rfl ?_; (conv => whnf)
      subst hs4
      exact .w ⟨rfl, _, _, (hq _ _ _ _).appQ (m := msg1 v sq) q1 q2 q3 q4⟩
    | own b cap junk hb hc hl =>
      (conv => whnf); refine SLoad.on 2 rfl ?_; (conv => whnf); refine SCall.b 1 (fun hb => by exact rnum1_any w0 v _ br _ hv f5 hb) rfl rfl ?_; (conv => whnf); refine SStore.on 0 rfl ?_; (conv => whnf); refine SReg.d [0, 1, 2, 3, 4, 5, 6, 7, 8, 9, 10, 11, 12] [0, 0, 0, 0, 0, 1, 1, 0, 2, 0, 0, 0, 2] (by decide +kernel) ?_; (conv => whnf); (conv => whnf); refine SLoad.on 2 rfl ?_; (conv => whnf); refine SLoad.on 0 rfl ?_; (conv => whnf)
      refine SApp.row rfl (hq _ _ _ _).q rfl (msgs_sz _) rfl (by simp only [List.length_map]; omega) (by simp only [List.mem_cons, List.not_mem_nil, or_false, forall_eq_or_imp, forall_eq]; exact ⟨hx.rq_ne hbm, h2, fun e => (hx.qn _ e).2 rfl⟩) fun b' cap' σ' q1 q2 q3 q4 => ?_
      (conv => whnf); refine SStore.on 2 rfl ?_; (conv => whnf)
      subst hs4
      exact .w ⟨rfl, _, _, (hq _ _ _ _).appQ (m := msg1 v sq) q1 q2 q3 q4⟩
end Go.Proofs.YtkbmkhhcppfcnaaDoor
end
section
set_option linter.unusedVariables false
set_option linter.unusedSimpArgs false
set_option maxRecDepth 100000
set_option maxHeartbeats 1000000
namespace Go.Proofs.YtkbmkhhcppfcnaaDoor
open Go.Al Go.RowKit
def mst (v : List UInt8) (seq : Int) : List Msg → Nat × Bool → Nat × Bool
  | [], s => s
  | m :: l, s => if m.seq = seq then mst v seq l (n2 v (n2 v s).2).2 else mst v seq l s
theorem more1_app (v : List UInt8) (seq : Int) : ∀ (l r : List Msg) (s : Nat × Bool), more1 v seq (l ++ r) s = more1 v seq l s ++ more1 v seq r (mst v seq l s)
  | [], r, s => rfl
  | m :: l, r, s => by
    rw [List.cons_append, more1, more1, mst]
    split <;> rw [more1_app v seq l r, List.cons_append]
theorem mst_app (v : List UInt8) (seq : Int) : ∀ (l r : List Msg) (s : Nat × Bool), mst v seq (l ++ r) s = mst v seq r (mst v seq l s)
  | [], r, s => rfl
  | m :: l, r, s => by
    rw [List.cons_append, mst, mst]
    split <;> rw [mst_app v seq l r]
theorem mst_far (v : List UInt8) (seq : Int) : ∀ (l : List Msg) (s : Nat × Bool), (mst v seq l s).1 ≤ max s.1 v.length
  | [], s => Nat.le_max_left ..
  | m :: l, s => by
    rw [mst]
    split
    · have h1 := mst_far v seq l (n2 v (n2 v s).2).2
      have h2 := n2_far v s
      have h3 := n2_far v (n2 v s).2
      omega
    · exact mst_far v seq l s
theorem fm_mid (a b : List Msg) (m : Msg) : fm (a ++ m :: b) = fm a ++ mc m ++ fm b := by
  simp only [fm, List.map_append, List.map_cons, List.flatMap_append, List.flatMap_cons, List.append_assoc]
  rfl
theorem DAt.setQ {τ s : St} {bx b cap n : Nat} {x : Sub} {ac : AV} {ra : Option Nat} {sq : Int} {rp : AV} (h : DAt τ s bx x ac (.msl b 0 n cap) ra (some b) sq rp) {q' : List Msg} {junk : List AV} (hn : q'.length = n) (hc : n ≤ cap) (hl : cap * 8 ≤ (fm q' ++ junk).length) : DAt τ (s.setBox b (fm q' ++ junk)) bx { x with queue := q' } ac (.msl b 0 n cap) ra (some b) sq rp := by
  refine ⟨le_setBox h.le (h.qn _ rfl).1, by rw [setBox_ne (Ne.symm (h.qn _ rfl).2)]; exact h.hbx, h.bxn, h.a.set (fun e => h.aq _ e rfl), ?_, h.an, h.qn, h.aq⟩
  have := RowV.own (σ := s.setBox b (fm q' ++ junk)) (sz := 8) (xs := q'.map eMsg) b cap junk setBox_same (by simpa [hn] using hc) hl
  rw [List.length_map, hn] at this
  exact this
def quB (v : List UInt8) (sq : Int) (q : List Msg) (i : Nat) : List Msg := more1 v sq (q.take i) (0, false) ++ q.drop i
theorem dmore_any (w0 : Base) (v : List UInt8) (x : Sub) (ac qv : AV) (ra rq : Option Nat) (sq : Int) (τ σ : St) (bd br : Nat) (hv : v.length ≤ 1000000) (hn : x.queue.length ≤ 1000000) (hx : DAt τ σ bd x ac qv ra rq sq (.ptr br 0)) (hr : σ.box br = some (rd2 v (0, false))) (hrn : τ.box br = none) (hne : br ≠ bd) (h1 : ra ≠ some br) (h2 : rq ≠ some br) :
    CallW Tryd.prog w0 66 [.ptr bd 0] σ (fun r s => r = .tup [] ∧ DAt τ s bd { x with queue := more1 v sq x.queue (0, false) } ac qv ra rq sq (.ptr br 0)) := by
  refine CallW.x (B := [(br, rd2 v (0, false)), (bd, dc x ac qv sq (.ptr br 0))]) Ty.tok Ty.mixed Tryd.func66 rfl Tryd.ntmps66 rfl (by simp) (by decide +kernel) ⟨by simp [hr, hx.hbx], by simp [hne]⟩ ?_
  have hx' := hx
  obtain ⟨_, _, _, _, hxq, _, hqn, _⟩ := hx'
  cases hxq with
  | nil h0 =>
    have h0' : x.queue = [] := by simpa using h0
    have e0 : more1 v sq x.queue (0, false) = x.queue := by rw [h0']; rfl
    rw [e0]
    (conv => whnf); refine SLoad.on 1 rfl ?_; (conv => whnf)
    refine SLoop.by Ty.mixed (fun (_ : Unit) => 0) (fun _ => [(9, .int .i64 0), (10, .int .i64 0)]) (fun _ => []) (fun _ s => s = σ) () ⟨by repeat (first | exact trivial | refine ⟨by first | trivial | exact Weak.refl _ | exact Weak.tok _ _ _ | exact Weak.of_eq (congrArg (AV.int _) (by omega)) | exact Weak.of_eq (congrArg AV.bool (by fail)) | exact Weak.nils _ _ (.inr rfl), ?_⟩), BSub.none _, rfl⟩ ?_
    rintro _ s rfl; (conv => whnf); refine SIf.n Ty.mixed (by exact rfl) ?_; (conv => whnf); exact .w ⟨rfl, hx⟩
  | own b cap junk hb hcap hl =>
    rw [List.length_map] at hx hcap ⊢
    have hbd := (hqn _ rfl).2
    have hbr : b ≠ br := fun e => h2 (by rw [e])
    (conv => whnf); refine SLoad.on 1 rfl ?_; (conv => whnf); refine SLoop.by2 Ty.mixed (fun i : Nat => x.queue.length - i) (fun i => [(0, .ptr bd 0), (9, .int .i64 x.queue.length), (10, .int .i64 i)]) (fun _ => [])
      (fun i s => i ≤ x.queue.length ∧ DAt τ s bd { x with queue := quB v sq x.queue i } ac (.msl b 0 x.queue.length cap) ra (some b) sq (.ptr br 0) ∧ s.box b = some (fm (quB v sq x.queue i) ++ junk) ∧ s.box br = some (rd2 v (mst v sq (x.queue.take i) (0, false)))) 0 ⟨by repeat (first | exact trivial | refine ⟨by first | trivial | exact Weak.refl _ | exact Weak.tok _ _ _ | exact Weak.of_eq (congrArg (AV.int _) (by omega)) | exact Weak.of_eq (congrArg AV.bool (by fail)) | exact Weak.nils _ _ (.inr rfl), ?_⟩), BSub.none _, Nat.zero_le _, hx, hb, hr⟩ ?_
    rintro i s ⟨hi, hX, hB, hR⟩ hK
    by_cases hlt : i < x.queue.length
    · have hc1 : decide ((i : Int) < (x.queue.length : Nat)) = true := decide_eq_true (by omega)
      have ga : x.queue[i]? = some x.queue[i] := by simp [hlt]
      have ht := take_snoc ga
      have hdr : x.queue.drop i = x.queue[i] :: x.queue.drop (i + 1) := List.drop_eq_getElem_cons hlt
      have hq1 : quB v sq x.queue (i + 1) = more1 v sq (x.queue.take i) (0, false) ++ (if (x.queue[i]).seq = sq then { x.queue[i] with prio := ((n2 v (mst v sq (x.queue.take i) (0, false))).1 : Nat), why := whyN (min (n2 v (n2 v (mst v sq (x.queue.take i) (0, false))).2).1 2) } else x.queue[i]) :: x.queue.drop (i + 1) := by
        rw [quB, ht, more1_app, more1]
        split <;> simp [more1]
      have hs1 : mst v sq (x.queue.take (i + 1)) (0, false) = if (x.queue[i]).seq = sq then (n2 v (n2 v (mst v sq (x.queue.take i) (0, false))).2).2 else mst v sq (x.queue.take i) (0, false) := by
        rw [ht, mst_app, mst]; rfl
      have hq0 : quB v sq x.queue i = more1 v sq (x.queue.take i) (0, false) ++ x.queue[i] :: x.queue.drop (i + 1) := by rw [quB, hdr]
      have hfar := mst_far v sq (x.queue.take i) (0, false)
      have hml := more1_len v sq (x.queue.take i) (0, false)
      rw [List.length_take] at hml
      have hpost : (x.queue.drop (i + 1)).length = x.queue.length - (i + 1) := List.length_drop ..
      generalize x.queue[i] = m at ga hq1 hs1 hq0 hdr
      generalize mst v sq (x.queue.take i) (0, false) = st at hR hq1 hs1 hfar
      generalize more1 v sq (x.queue.take i) (0, false) = pre at hq1 hq0 hml
      generalize hpp : x.queue.drop (i + 1) = post at hq1 hq0 hpost
      have hS : s.box b = some (fm pre ++ mc m ++ (fm post ++ junk)) := by rw [hB, hq0, fm_mid, List.append_assoc]
      have hpl : (fm pre).length = i * 8 := by rw [fm_len]; congr 1; omega
      have ho : ∀ k, 0 + (i : Int).toNat * 8 + k = (fm pre).length + k := fun k => by rw [hpl]; simp
      refine ⟨[(b, fm pre ++ mc m ++ (fm post ++ junk)), (br, rd2 v st), (bd, dc { x with queue := quB v sq x.queue i } ac (.msl b 0 x.queue.length cap) sq (.ptr br 0))], ⟨by simp [hS, hR, hX.hbx], by simp [hbr, hbd, hne]⟩, ?_⟩
      (conv => whnf); refine SIf.y Ty.mixed (by assumption) ?_; (conv => whnf); refine SLoad.on 2 rfl ?_; (conv => whnf); refine And.intro (by omega) ?_; (conv => whnf); refine SReg.d [0, 1, 2, 4, 5, 6, 3, 7, 8] [0, 0, 0, 1, 0, 0, 0, 1, 0] (by decide +kernel) ?_; (conv => whnf); (conv => whnf); refine SLoad.mid 0 _ rfl (ho _) rfl ?_; (conv => whnf); refine SLoad.on 2 rfl ?_; (conv => whnf)
      have hw : ∀ n : Nat, ([AV.str [], .str [110, 97, 99, 107], .str [116, 105, 109, 101]] : List AV)[(min (n : Int) 2).toNat]? = some (.str (whyN (min n 2))) := by
        intro n
        by_cases h0 : n = 0
        · subst h0; rfl
        · by_cases h1 : n = 1
          · subst h1; rfl
          · have : (min (n : Int) 2).toNat = 2 := by omega
            have h2 : min n 2 = 2 := by omega
            rw [this, h2]; rfl
      have sc : ∀ (s : St) X Y, (s.setBox b Y).setBox br X = (s.setBox br X).setBox b Y := fun s X Y => setBox_comm hbr
      have f1 := n2_far v st
      (refine SIf.x Ty.mixed (fun hc => ?_) (fun hc => ?_) <;> (conv => whnf))
      · have hm : m.seq = sq := by simpa using hc
        rw [if_pos hm] at hq1 hs1
        refine SLoad.on 2 rfl ?_; (conv => whnf); refine SCall.b 1 (fun hb => by exact rnum1_any w0 v _ br _ hv (by omega) hb) rfl rfl ?_; (conv => whnf); refine SStore.mid 0 _ rfl (ho _) (Nat.le_of_ble_eq_true rfl) ?_; (conv => whnf); refine SReg.d [0, 1, 2, 3, 4, 5, 6, 7, 8, 9, 10, 11, 12] [0, 0, 0, 0, 0, 1, 2, 0, 0, 1, 0, 0, 2] (by decide +kernel) ?_; (conv => whnf); (conv => whnf); refine SCall.p (by exact deaths1_any w0) ?_
        (conv => whnf); refine SLoad.on 2 rfl ?_; (conv => whnf); refine SCall.b 1 (fun hb => by exact rnum1_any w0 v _ br _ hv (by omega) hb) rfl rfl ?_; (conv => whnf)
        refine ⟨_, ⟨by first | omega | (simp only [List.length_cons, List.length_append, List.length_nil, List.length_map, length_aBytes, List.length_replicate, List.length_range]; omega) | fail, by exact hw _⟩, ?_⟩
        (conv => whnf); refine SStore.mid 0 _ rfl (ho _) (Nat.le_of_ble_eq_true rfl) ?_; (conv => whnf); refine ⟨_, IntWalk.i64_in _ (by omega), ?_⟩; (conv => whnf)
        simp only [setBox_setBox, sc]
        have hY : fm (quB v sq x.queue (i + 1)) ++ junk = fm pre ++ mc { m with prio := ((n2 v st).1 : Nat), why := whyN (min (n2 v (n2 v st).2).1 2) } ++ (fm post ++ junk) := by rw [hq1, fm_mid, List.append_assoc]
        have hD := (hX.other hrn hne h1 h2 (rd2 v (n2 v (n2 v st).2).2)).setQ (q' := quB v sq x.queue (i + 1)) (junk := junk) (by rw [hq1]; simp [hml, hpost]; omega) hcap (by
          rw [List.length_append, flat_len (msgs_sz _), List.length_map] at hl
          rw [List.length_append, fm_len, hq1]; simp [hml, hpost]; omega)
        have hB1 : ((s.setBox br (rd2 v (n2 v (n2 v st).2).2)).setBox b (fm (quB v sq x.queue (i + 1)) ++ junk)).box b = some (fm (quB v sq x.queue (i + 1)) ++ junk) := setBox_same
        have hR1 : ((s.setBox br (rd2 v (n2 v (n2 v st).2).2)).setBox b (fm (quB v sq x.queue (i + 1)) ++ junk)).box br = some (rd2 v (mst v sq (x.queue.take (i + 1)) (0, false))) := by rw [setBox_ne (Ne.symm hbr), hs1]; exact setBox_same
        rw [hY] at hD hR1
        refine ⟨i + 1, by omega, by repeat (first | exact trivial | refine ⟨by first | trivial | exact Weak.refl _ | exact Weak.tok _ _ _ | exact Weak.of_eq (congrArg (AV.int _) (by omega)) | exact Weak.of_eq (congrArg AV.bool (by fail)) | exact Weak.nils _ _ (.inr rfl), ?_⟩), BSub.none _, hlt, hD, ?_, hR1⟩
        rw [hY]
        exact setBox_same
      · have hm : ¬ m.seq = sq := by simpa using hc
        rw [if_neg hm] at hq1 hs1
        refine ⟨_, IntWalk.i64_in _ (by omega), ?_⟩; (conv => whnf)
        have e1 : quB v sq x.queue (i + 1) = quB v sq x.queue i := by rw [hq1, hq0]
        exact ⟨i + 1, by omega, by repeat (first | exact trivial | refine ⟨by first | trivial | exact Weak.refl _ | exact Weak.tok _ _ _ | exact Weak.of_eq (congrArg (AV.int _) (by omega)) | exact Weak.of_eq (congrArg AV.bool (by fail)) | exact Weak.nils _ _ (.inr rfl), ?_⟩), BSub.none _, hlt, by rw [e1]; exact hX, by rw [e1]; exact hB, by rw [hs1]; exact hR⟩
    · have hge : i = x.queue.length := by omega
      have hc1 : decide ((i : Int) < (x.queue.length : Nat)) = false := decide_eq_false (by omega)
      subst hge
      have e1 : quB v sq x.queue x.queue.length = more1 v sq x.queue (0, false) := by rw [quB, List.take_length, List.drop_length, List.append_nil]
      rw [e1] at hX
      refine ⟨[], .nil _, ?_⟩; (conv => whnf); refine SIf.n Ty.mixed (by assumption) ?_; (conv => whnf); exact .w ⟨rfl, hX⟩
end Go.Proofs.YtkbmkhhcppfcnaaDoor
end
section
set_option linter.unusedVariables false
set_option linter.unusedSimpArgs false
set_option maxRecDepth 100000
set_option maxHeartbeats 1000000
namespace Go.Proofs.YtkbmkhhcppfcnaaDoor
open Go.Al Go.RowKit
def done2 (t : UInt8) (j : Nat) : Bool := (([97, 98, 110, 113, 115, 120] : List UInt8).take j).contains t
def xj (x : Sub) (r : Row) (j : Nat) : Sub := if done2 (parts r.key).t j = true then add2 x r else { x with id := (parts r.key).id }
theorem PlaceAt.keep {τ s : St} {bx : Nat} {x : Sub} {ra rq : Option Nat} {seq : Int} {bm o : Nat} (h : PlaceAt τ s bx x ra rq seq bm o) {br : Nat} (hb : s.box br = none) (ds : List AV) : PlaceAt τ (s.setBox br ds) bx x ra rq seq bm o := by
  cases h with
  | found i m b o hr hi hm hj ho => exact .found i m _ o hr hi hm hj ho
  | lone bm hj hbm hn h1 h2 h3 => exact .lone _ hj (by rw [setBox_ne (fun e => by rw [e, hb] at hbm; cases hbm)]; exact hbm) hn h1 h2 h3
theorem PlaceAt.ne {τ s : St} {bx : Nat} {x : Sub} {ac qv : AV} {ra rq : Option Nat} {seq : Int} {bm o : Nat} (h : PlaceAt τ s bx x ra rq seq bm o) (hx : XAt τ s bx x ac qv ra rq) {br : Nat} (hb : s.box br = none) : br ≠ bm := by
  cases h with
  | found i m b o hr hi hm hj ho => exact fun e => hx.rq_ne hb (by rw [hr, e])
  | lone bm hj hbm hn h1 h2 h3 => exact fun e => by rw [← e, hb] at hbm; cases hbm
theorem PlaceAt.less {τ τ' s : St} {bx : Nat} {x : Sub} {ra rq : Option Nat} {seq : Int} {bm o : Nat} (h : PlaceAt τ s bx x ra rq seq bm o) (hl : St.Le τ' τ) : PlaceAt τ' s bx x ra rq seq bm o := by
  cases h with
  | found i m b o hr hi hm hj ho => exact .found i m _ o hr hi hm hj ho
  | lone bm hj hbm hn h1 h2 h3 => exact .lone _ hj hbm (le_none hl hn) h1 h2 h3
theorem XAt.ne {τ s : St} {bx : Nat} {x : Sub} {ac qv : AV} {ra rq : Option Nat} (hx : XAt τ s bx x ac qv ra rq) {br : Nat} (hb : s.box br = none) : br ≠ bx := fun e => by rw [e, hx.hbx] at hb; cases hb
theorem weak_sub0 : Weak (.tup [eSub sub0, .int .u16 ((11 : Nat) : Int)]) (.tup [.agg [.int .i64 0, .str [], .str [], .str [], .int .i64 0, .int .i64 0, .int .i64 0, .nils, .nils, .str []], .int .u16 11]) :=
  .tup (.cons (.agg (.cons (.refl _) (.cons (.refl _) (.cons (.refl _) (.cons (.refl _) (.cons (.refl _) (.cons (.refl _) (.cons (.refl _) (.cons (.nils 1 .no (.inl rfl)) (.cons (.nils 8 .no (.inl rfl)) (.cons (.refl _) .nil)))))))))) (by intro c hc; simp [eSub] at hc; rcases hc with rfl | rfl | rfl | rfl | rfl | rfl | rfl | rfl | rfl | rfl <;> rfl)) (.cons (.refl _) .nil))
theorem know_le {τ s : St} {B : BL} (h : Know τ B) (hl : St.Le τ s) : Know s B := ⟨fun p hp => hl.box _ _ (h.has p hp), h.nd⟩
end Go.Proofs.YtkbmkhhcppfcnaaDoor
end
section
set_option linter.unusedVariables false
set_option linter.unusedSimpArgs false
set_option maxRecDepth 100000
set_option maxHeartbeats 1000000
namespace Go.Proofs.YtkbmkhhcppfcnaaDoor
open Go.Al Go.RowKit
def DoesT (w0 : Base) (f : FuncId) (t : UInt8) : Prop := ∀ (τ σ : St) (bd br : Nat) (x : Sub) (ac qv : AV) (ra rq : Option Nat) (sq : Int) (v : List UInt8), v.length ≤ 1000000 → x.acks.length ≤ 1000000 → x.queue.length ≤ 1000000 → DAt τ σ bd x ac qv ra rq sq (.ptr br 0) → σ.box br = some (rd2 v (0, false)) → τ.box br = none → br ≠ bd → ra ≠ some br → rq ≠ some br →
  CallW Tryd.prog w0 f [.ptr bd 0] σ (fun r s => r = .tup [] ∧ ∃ ac' ra' qv' rq', DAt τ s bd (tell1 t sq v x) ac' qv' ra' rq' sq (.ptr br 0))
def tab1 (bd : Nat) : List (AV × AV) := [(.int .u8 97, .fn (.func 61) [.ptr bd 0] []), (.int .u8 110, .fn (.func 62) [.ptr bd 0] []), (.int .u8 113, .fn (.func 63) [.ptr bd 0] []), (.int .u8 115, .fn (.func 64) [.ptr bd 0] []), (.int .u8 119, .fn (.func 65) [.ptr bd 0] []), (.int .u8 120, .fn (.func 66) [.ptr bd 0] [])]
theorem look1 (w0 : Base) (t : UInt8) (bd : Nat) : (∃ i f, OwnF Tryd.prog f ∧ mfind (.int .u8 t.toNat) (tab1 bd) 0 = some (some (i, .fn (.func f) [.ptr bd 0] [])) ∧ DoesT w0 f t) ∨ (mfind (.int .u8 t.toNat) (tab1 bd) 0 = some none ∧ ∀ sq v x, tell1 t sq v x = x) := by
  by_cases h1 : t = 97
  · subst h1
    exact .inl ⟨_, _, inferInstance, rfl, fun τ σ bd br x ac qv ra rq sq v hv ha hq hx hr hrn g1 g2 g3 => (dack_any w0 x ac qv ra rq sq _ (.inr ⟨_, rfl⟩) τ σ bd ha hx).mono fun r s ⟨e, ac', ra', h⟩ => ⟨e, _, _, _, _, h⟩⟩
  by_cases h2 : t = 110
  · subst h2
    exact .inl ⟨_, _, inferInstance, rfl, fun τ σ bd br x ac qv ra rq sq v hv ha hq hx hr hrn g1 g2 g3 => (dnote_any w0 v x ac qv ra rq sq τ σ bd br hv hx hr hrn g1 g2 g3).mono fun r s ⟨e, h⟩ => ⟨e, _, _, _, _, h⟩⟩
  by_cases h3 : t = 113
  · subst h3
    exact .inl ⟨_, _, inferInstance, rfl, fun τ σ bd br x ac qv ra rq sq v hv ha hq hx hr hrn g1 g2 g3 => (dmsg_any w0 v x ac qv ra rq sq τ σ bd br hv hq hx hr hrn g1 g2 g3).mono fun r s ⟨e, qv', rq', h⟩ => ⟨e, _, _, _, _, h⟩⟩
  by_cases h4 : t = 115
  · subst h4
    exact .inl ⟨_, _, inferInstance, rfl, fun τ σ bd br x ac qv ra rq sq v hv ha hq hx hr hrn g1 g2 g3 => (dsub_any w0 v x ac qv ra rq sq τ σ bd br hv hx hr hrn g1 g2 g3).mono fun r s ⟨e, h⟩ => ⟨e, _, _, _, _, h⟩⟩
  by_cases h5 : t = 119
  · subst h5
    exact .inl ⟨_, _, inferInstance, rfl, fun τ σ bd br x ac qv ra rq sq v hv ha hq hx hr hrn g1 g2 g3 => (dwant_any w0 v x ac qv ra rq sq τ σ bd br hv hx hr hrn g1 g2 g3).mono fun r s ⟨e, h⟩ => ⟨e, _, _, _, _, h⟩⟩
  by_cases h6 : t = 120
  · subst h6
    exact .inl ⟨_, _, inferInstance, rfl, fun τ σ bd br x ac qv ra rq sq v hv ha hq hx hr hrn g1 g2 g3 => (dmore_any w0 v x ac qv ra rq sq τ σ bd br hv hq hx hr hrn g1 g2 g3).mono fun r s ⟨e, h⟩ => ⟨e, _, _, _, _, h⟩⟩
  refine .inr ⟨?_, fun sq v x => by simp only [tell1, h1, h2, h3, h4, h5, h6, if_false]⟩
  have hT : ∀ (u : UInt8), t ≠ u → decide (((t.toNat : Nat) : Int) = ((u.toNat : Nat) : Int)) = false := fun u h => decide_eq_false fun e => h (UInt8.toNat_inj.1 (by omega))
  have d1 := hT 97 h1
  have d2 := hT 110 h2
  have d3 := hT 113 h3
  have d4 := hT 115 h4
  have d5 := hT 119 h5
  have d6 := hT 120 h6
  have e1 : ((97 : UInt8).toNat : Int) = 97 := rfl
  have e2 : ((110 : UInt8).toNat : Int) = 110 := rfl
  have e3 : ((113 : UInt8).toNat : Int) = 113 := rfl
  have e4 : ((115 : UInt8).toNat : Int) = 115 := rfl
  have e5 : ((119 : UInt8).toNat : Int) = 119 := rfl
  have e6 : ((120 : UInt8).toNat : Int) = 120 := rfl
  rw [e1] at d1; rw [e2] at d2; rw [e3] at d3; rw [e4] at d4; rw [e5] at d5; rw [e6] at d6
  simp only [tab1, mfind, keyEqA, if_true, d1, d2, d3, d4, d5, d6]
end Go.Proofs.YtkbmkhhcppfcnaaDoor
end
section
set_option linter.unusedVariables false
set_option linter.unusedSimpArgs false
set_option maxRecDepth 100000
set_option maxHeartbeats 1000000
namespace Go.Proofs.YtkbmkhhcppfcnaaDoor
open Go.Al Go.RowKit
instance : TyM Tryd.prog 85 5 1 (.int .u8) := ⟨Tryd.underlying85, Tryd.underlying5, by
  have h : (Tryd.prog.info? 1).bind (·.zero) = some .nilFunc := by kernel_rfl
  obtain ⟨i, h1, h2⟩ := Option.bind_eq_some_iff.1 h
  exact ⟨i, _, h1, h2⟩⟩
theorem le_both {A A' : St} {m : Nat} {q : Option Ob} (h : St.Le A A') : St.Le (A.setObj m q) (A'.setObj m q) := ⟨h.box, h.tok, fun i o e => by
  by_cases hi : i = m
  · subst hi; rw [setObj_same] at e ⊢; exact e
  · rw [setObj_other hi] at e ⊢; exact h.obj i o e⟩
set_option maxHeartbeats 4000000 in
theorem dec1_p (w0 : Base) (hL : Laid w0) (l : List Row) (tk : Tok) (hl : l.length ≤ 100000) (hv : ∀ r ∈ l, r.val.length ≤ 1000000) (hk : ∀ r ∈ l, r.key.length ≤ 1000000) : CallP Tryd.prog w0 26 [.slc 2 (l.map eRow) tk] (.tup [eSub (dec1 l).1, .int .u16 ((dec1 l).2 : Nat)]) := by
  refine CallP.x Ty.tok Ty.mixed Tryd.func26 rfl Tryd.ntmps26 rfl (by simp) (by decide +kernel) fun σ => ?_
  have hfits := rows1_fits l hl
  (conv => whnf); intro b2 hb2; (conv => whnf); refine SBox.b rfl ?_; (conv => whnf); intro bd hbd
  rw [fAV_eq]
  generalize hk : (fun (L : SL) (σ_1 : St) (B : BL) => Xc Tryd.prog w0 Ty.tt 90 _ _ _ _ L σ_1 B) = kk
  (conv => whnf)
  subst hk
  show Xc _ _ _ _ _ _ _ _ _ _ _
  rw [Xc]
  conv => whnf
  intro m hm; (conv => whnf); refine SMapSet.on rfl (by exact setObj_same) rfl ?_; (conv => whnf); refine SMapSet.on rfl (by exact setObj_same) rfl ?_; (conv => whnf); refine SMapSet.on rfl (by exact setObj_same) rfl ?_; (conv => whnf); refine SMapSet.on rfl (by exact setObj_same) rfl ?_; (conv => whnf); refine SMapSet.on rfl (by exact setObj_same) rfl ?_; (conv => whnf)
  refine SMapSet.on rfl (by exact setObj_same) rfl ?_; (conv => whnf)
  have hbb : bd ≠ b2 := by rintro rfl; rw [setBox_same] at hbd; cases hbd
  have hm0 : σ.obj m = none := hm
  have hb2' : σ.box b2 = none := hb2
  clear hm hb2
  have hK2 : Know ((σ.setBox b2 (xc sub0 .nils .nils)).setObj m (some (.map (tab1 bd)))) [(b2, xc sub0 .nils .nils)] := ((Know.nil σ).new hb2').obj m _
  have hσ : ∀ s, St.Le ((σ.setBox b2 (xc sub0 .nils .nils)).setObj m (some (.map (tab1 bd)))) s → St.Le σ s := fun s h => (le_setObj (le_new (.refl _) hb2') hm0).trans h
  have hτm : ((σ.setBox b2 (xc sub0 .nils .nils)).setObj m (some (.map (tab1 bd)))).obj m = some (.map (tab1 bd)) := setObj_same
  have hτd : ((σ.setBox b2 (xc sub0 .nils .nils)).setObj m (some (.map (tab1 bd)))).box bd = none := hbd
  simp only [setObj_setObj]
  have hx0 : DAt ((σ.setBox b2 (xc sub0 .nils .nils)).setObj m (some (.map (tab1 bd)))) (((σ.setBox b2 (xc sub0 .nils .nils)).setBox bd (dc sub0 .nils .nils 0 .nilp)).setObj m (some (.map (tab1 bd)))) bd sub0 .nils .nils none none 0 .nilp :=
    ⟨le_both (le_new (.refl _) hbd), setBox_same, hbd, .nil rfl, .nil rfl, (fun b e => by cases e), (fun b e => by cases e), (fun b e => by cases e)⟩
  generalize ((σ.setBox b2 (xc sub0 .nils .nils)).setObj m (some (.map (tab1 bd)))) = τ at hK2 hσ hτm hτd hx0
  refine SLoop.by2 Ty.mixed (fun (a : Nat × AV × Option Nat × AV × Option Nat × Int × AV) => l.length - a.1) (fun (i, ac, ra, qv, rq, sq, rp) => [(0, .slc 2 (l.map eRow) .no), (2, .ptr b2 0), (4, .ptr bd 0), (5, .mp m), (31, .slc 2 (l.map eRow) .no), (32, .int .i64 l.length), (33, .int .i64 i)]) (fun (i, ac, ra, qv, rq, sq, rp) => [(bd, dc (rows1 (l.take i)) ac qv sq rp), (b2, xc sub0 .nils .nils)])
    (fun (i, ac, ra, qv, rq, sq, rp) s => i ≤ l.length ∧ DAt τ s bd (rows1 (l.take i)) ac qv ra rq sq rp) (0, .nils, none, .nils, none, 0, .nilp) ⟨?_, .refl _, Nat.zero_le _, hx0⟩ ?_
  · show xWeak [(0, .slc 2 (l.map eRow) .no), (2, .ptr b2 0), (4, .ptr bd 0), (5, .mp m), (31, .slc 2 (l.map eRow) .no), (32, .int .i64 l.length), (33, .int .i64 (0 : Nat))] _
    rw [List.length_map]
    repeat (first | exact trivial | refine ⟨by first | trivial | exact Weak.refl _ | exact Weak.tok _ _ _ | exact Weak.of_eq (congrArg (AV.int _) (by omega)) | exact Weak.of_eq (congrArg AV.bool (by fail)) | exact Weak.nils _ _ (.inr rfl), ?_⟩)
  rintro ⟨i, ac, ra, qv, rq, sq, rp⟩ s ⟨hi, hx⟩ hK
  by_cases hlt : i < l.length
  · have hc : decide ((i : Int) < (l.length : Nat)) = true := decide_eq_true (by omega)
    have ga : l[i]? = some l[i] := by simp [hlt]
    have hkl := hk _ (List.getElem_mem hlt)
    have hvl := hv _ (List.getElem_mem hlt)
    have hsn := rows1_snoc ga
    have hft := rows1_fit l i (by omega)
    have hac := hft.acks
    have hqu := hft.queue
    generalize l[i] = r at ga hkl hvl hsn
    have hK : Know s [(bd, dc (rows1 (l.take i)) ac qv sq rp), (b2, xc sub0 .nils .nils)] := hK
    generalize rows1 (l.take i) = x at hx hsn hft hac hqu hK
    have hpa := partsS_any w0 hL r.key hkl
    refine ⟨_, hK, ?_⟩; (conv => whnf); refine SIf.y Ty.mixed (by assumption) ?_; (conv => whnf)
    refine ⟨_, ⟨by first | omega | (simp only [List.length_cons, List.length_append, List.length_nil, List.length_map, length_aBytes, List.length_replicate, List.length_range]; omega) | fail, by exact get_map ga⟩, ?_⟩
    (conv => whnf); intro b7 hb7; (conv => whnf); refine SStore.on 0 rfl ?_; (conv => whnf); refine SLoad.on 0 rfl ?_; (conv => whnf); refine SCall.p (by exact hpa) ?_; (conv => whnf); refine SReg.fz 7 hb7 rfl rfl ?_
    refine SReg.meet (fun br => [(0, .slc 2 (l.map eRow) .no), (2, .ptr b2 0), (4, .ptr bd 0), (5, .mp m), (9, .int .u8 (parts r.key).t.toNat), (31, .slc 2 (l.map eRow) .no), (32, .int .i64 l.length), (33, .int .i64 i)]) (fun br => [(br, rd2 r.val (0, false)), (bd, dc { x with id := (parts r.key).id } ac qv (parts r.key).seq (.ptr br 0)), (b2, xc sub0 .nils .nils)])
      (fun br s1 => s.box br = none ∧ br ≠ bd ∧ s1 = (s.setBox br (rd2 r.val (0, false))).setBox bd (dc { x with id := (parts r.key).id } ac qv (parts r.key).seq (.ptr br 0))) ?_ ?_
    · refine SReg.fl 0 rfl [5, 6, 7] 8 [0, 1, 2, 3, 4, 9, 10, 11] [[12, 13, 14], [15]] [16, 17, 18] [0, 0, 0, 0, 0, 0, 0, 0, 2, 0, 0, 0, 2, 0, 0, 2, 0, 0, 2] (by decide +kernel) ?_
      (conv => whnf)
      repeat' (first | ((first | refine SIf.y Ty.mixed (by first | exact rfl | assumption | fail) ?_ | refine SIf.n Ty.mixed (by first | exact rfl | assumption | fail) ?_ | refine SCond.y (by first | exact rfl | assumption | fail) ?_ | refine SCond.n (by first | exact rfl | assumption | fail) ?_ | refine SPick.y (by first | exact rfl | assumption | fail) ?_ | refine SPick.n (by first | exact rfl | assumption | fail) ?_ | refine SPick.b ?_ | refine SPick.i ?_ | fail | refine SLoad.on 0 rfl ?_ | refine SLoad.on 1 rfl ?_ | refine SLoad.on 2 rfl ?_ | refine SLoad.on 3 rfl ?_ | refine SLoad.on 4 rfl ?_ | refine SLoad.on 5 rfl ?_ | refine SStore.on 0 rfl ?_ | refine SStore.on 1 rfl ?_ | refine SStore.on 2 rfl ?_ | refine SStore.on 3 rfl ?_ | refine SStore.on 4 rfl ?_ | refine SStore.on 5 rfl ?_ | refine SBox.b rfl ?_ | refine SCall.p (by first | exact hpa | fail) ?_ | fail | refine SApp.c rfl rfl (by first | assumption | exact Moves.more (by assumption) (by assumption) | fail) (by first | (simp only [length_aBytes, List.length_append, List.length_cons, List.length_nil, List.length_map, List.length_range]; omega) | omega | fail) fun tk1 σ1 hm => ?_ | refine SReg.t 0 [] (by decide +kernel) ?_ | refine And.intro (by first | omega | (simp only [List.length_cons, List.length_append, List.length_nil, List.length_map, length_aBytes, List.length_replicate, List.length_range]; omega) | fail) ?_ | refine ⟨_, ⟨by first | omega | (simp only [List.length_cons, List.length_append, List.length_nil, List.length_map, length_aBytes, List.length_replicate, List.length_range]; omega) | fail, by exact get_map ga⟩, ?_⟩ | refine ⟨_, toBytes_aBytes _, ?_⟩ | refine ⟨_, by repeat (first | exact toB_nil | apply toB_cons | apply toB_consC _ (by first | omega | (simp only [List.length_cons, List.length_append, List.length_nil, List.length_map, length_aBytes, List.length_replicate, List.length_range]; omega) | fail)), ?_⟩ | refine ⟨_, IntWalk.i64_in _ (by first | omega | (simp only [List.length_cons, List.length_append, List.length_nil, List.length_map, length_aBytes, List.length_replicate, List.length_range]; omega) | fail), ?_⟩ | refine ⟨_, wrap_u8 _, ?_⟩ | refine ⟨_, rfl, ?_⟩ | intro br hbr | fail); conv => whnf) | (refine And.intro ?_ ?_ <;> (conv => whnf)))
      all_goals
        have hb0 : s.box br = none ∧ br ≠ bd := by first | exact ⟨hbr, hx.ne hbr⟩ | exact box_none hbr | (simp only [setBox_setBox] at hbr; exact box_none hbr)
        have sc : ∀ (s : St) X Y, (s.setBox bd Y).setBox br X = (s.setBox br X).setBox bd Y := fun s X Y => setBox_comm (Ne.symm hb0.2)
        refine ⟨br, by repeat (first | exact trivial | refine ⟨by first | trivial | exact Weak.refl _ | exact Weak.tok _ _ _ | exact Weak.of_eq (congrArg (AV.int _) (by omega)) | exact Weak.of_eq (congrArg AV.bool (by fail)) | exact Weak.nils _ _ (.inr rfl), ?_⟩), .refl _, hb0.1, hb0.2, ?_⟩
        simp only [setBox_setBox, sc]; rfl
    · rintro br s1 ⟨hb0, hbd1, rfl⟩ hK1
      have hD := (hx.fresh hb0 (rd2 r.val (0, false))).own { x with id := (parts r.key).id } (parts r.key).seq (.ptr br 0) rfl rfl
      have hR : ((s.setBox br (rd2 r.val (0, false))).setBox bd (dc { x with id := (parts r.key).id } ac qv (parts r.key).seq (.ptr br 0))).box br = some (rd2 r.val (0, false)) := by rw [setBox_ne hbd1]; exact setBox_same
      have hτbr := le_none hx.le hb0
      have hadd : add1 x r = tell1 (parts r.key).t (parts r.key).seq r.val { x with id := (parts r.key).id } := rfl
      rcases look1 w0 (parts r.key).t bd with ⟨i0, f, hf, hfind, hdo⟩ | ⟨hfind, htell⟩
      · haveI := hf
        (conv => whnf); refine SMapGet.y rfl (hD.le.obj _ _ hτm) hfind ?_; (conv => whnf); refine SIf.y Ty.mixed (by exact rfl) ?_; (conv => whnf); refine SCall.w (hdo τ _ bd br _ ac qv ra rq _ r.val hvl (by show x.acks.length ≤ _; omega) (by show x.queue.length ≤ _; omega) hD hR hτbr hbd1 (hx.ra_ne hb0) (hx.rq_ne hb0)) rfl ?_; rintro r2 s2 ⟨rfl, ac', ra', qv', rq', hx'⟩ hB
        refine ⟨_, hx'.know hK2, ?_⟩; clear hB; (conv => whnf); refine ⟨_, IntWalk.i64_in _ (by omega), ?_⟩; (conv => whnf)
        refine ⟨(i + 1, ac', ra', qv', rq', (parts r.key).seq, .ptr br 0), by omega, by repeat (first | exact trivial | refine ⟨by first | trivial | exact Weak.refl _ | exact Weak.tok _ _ _ | exact Weak.of_eq (congrArg (AV.int _) (by omega)) | exact Weak.of_eq (congrArg AV.bool (by fail)) | exact Weak.nils _ _ (.inr rfl), ?_⟩), ?_, by omega, by rw [hsn, hadd]; exact hx'⟩
        show BSub [(bd, dc (rows1 (l.take (i + 1))) _ _ _ _), _] _
        rw [hsn, hadd]
        exact .refl _
      · (conv => whnf)
        refine SMapGet.n rfl (hD.le.obj _ _ hτm) hfind ?_; (conv => whnf); refine SIf.n Ty.mixed (by exact rfl) ?_; (conv => whnf); refine ⟨_, IntWalk.i64_in _ (by omega), ?_⟩; (conv => whnf)
        rw [htell] at hadd
        refine ⟨(i + 1, ac, ra, qv, rq, (parts r.key).seq, .ptr br 0), by omega, by repeat (first | exact trivial | refine ⟨by first | trivial | exact Weak.refl _ | exact Weak.tok _ _ _ | exact Weak.of_eq (congrArg (AV.int _) (by omega)) | exact Weak.of_eq (congrArg AV.bool (by fail)) | exact Weak.nils _ _ (.inr rfl), ?_⟩), ?_, by omega, by rw [hsn, hadd]; exact hD⟩
        show BSub [(bd, dc (rows1 (l.take (i + 1))) _ _ _ _), _] _
        rw [hsn, hadd]
        exact .drop (.refl _)
  · have hc : decide ((i : Int) < (l.length : Nat)) = false := decide_eq_false (by omega)
    have hge : i = l.length := by omega
    subst hge
    rw [List.take_length] at hx
    have hK : Know s [(bd, dc (rows1 (l.take l.length)) ac qv sq rp), (b2, xc sub0 .nils .nils)] := hK
    rw [List.take_length] at hK
    refine ⟨_, hK, ?_⟩; (conv => whnf); refine SIf.n Ty.mixed (by assumption) ?_; (conv => whnf)
    refine SCall.wK (fun hB => DAt.seal hx fun s1 h1 h2 => ((rising1_any w0 l .no (by omega)) s1).mono fun r s2 ⟨e1, e2⟩ => (⟨e1, by subst e2; exact h1, by subst e2; exact h2⟩ : r = AV.bool (upTo l l.length) ∧ St.Le τ s2 ∧ s2.box bd = some (dc (rows1 l) (eInts (rows1 l).acks) (eMsgs (rows1 l).queue) sq rp))) rfl ?_
    rintro rr s2 ⟨rfl, h1, h2⟩ hB
    have hbn : bd ∉ ([(b2, xc sub0 .nils .nils)] : BL).map (·.1) := by
      simp only [List.map_cons, List.map_nil, List.mem_singleton]
      exact hbb
    refine ⟨[(bd, dc (rows1 l) (eInts (rows1 l).acks) (eMsgs (rows1 l).queue) sq rp), (b2, xc sub0 .nils .nils)], (know_le hK2 h1).add h2 hbn, ?_⟩
    by_cases hu : upTo l l.length = true
    · rw [hu]
      by_cases he : enc1 (rows1 l) = l
      · have hd2 : (!decide (enc1 (rows1 l) = l)) = false := by rw [decide_eq_true he]; rfl
        have hlen2 : (enc1 (rows1 l)).length ≤ 1000000000 := by rw [he]; omega
        have hdec : dec1 l = (rows1 l, 0) := if_pos ⟨hu, he⟩
        rw [hdec]
        (conv => whnf); refine SCond.n (by exact rfl) ?_; (conv => whnf); refine SCond.n (by exact rfl) ?_; (conv => whnf); refine SCond.n (by exact rfl) ?_; (conv => whnf); refine SCond.n (by exact rfl) ?_; (conv => whnf); refine SLoad.on 0 rfl ?_; (conv => whnf); refine SCond.n (by exact rfl) ?_; (conv => whnf); refine SCall.p (by exact enc1_p w0 hL (rows1 l) hfits) ?_; (conv => whnf)
        refine SCond.n (by exact rfl) ?_; (conv => whnf); refine SCond.n (by exact rfl) ?_; (conv => whnf); refine SCall.p (by exact eqRows1_any w0 _ _ _ _ (by omega)) ?_; (conv => whnf); refine SCond.n (by exact rfl) ?_; (conv => whnf); refine SPick.n (by exact rfl) ?_; (conv => whnf); refine SIf.n Ty.mixed (by assumption) ?_; (conv => whnf); refine SLoad.on 0 rfl ?_; (conv => whnf)
        refine SStore.on 1 rfl ?_; (conv => whnf); refine SLoad.on 1 rfl ?_; (conv => whnf); exact .p (le_setBox (hσ _ h1) hb2') rfl
      · have hd2 : (!decide (enc1 (rows1 l) = l)) = true := by rw [decide_eq_false he]; rfl
        have hlen2 : (enc1 (rows1 l)).length ≤ 1000000000 := by have := enc1_len _ hfits; omega
        have hdec : dec1 l = (sub0, 11) := if_neg fun h => he h.2
        rw [hdec]
        (conv => whnf); refine SCond.n (by exact rfl) ?_; (conv => whnf); refine SCond.n (by exact rfl) ?_; (conv => whnf); refine SCond.n (by exact rfl) ?_; (conv => whnf); refine SCond.n (by exact rfl) ?_; (conv => whnf); refine SLoad.on 0 rfl ?_; (conv => whnf); refine SCond.n (by exact rfl) ?_; (conv => whnf); refine SCall.p (by exact enc1_p w0 hL (rows1 l) hfits) ?_; (conv => whnf)
        refine SCond.n (by exact rfl) ?_; (conv => whnf); refine SCond.n (by exact rfl) ?_; (conv => whnf); refine SCall.p (by exact eqRows1_any w0 _ _ _ _ (by omega)) ?_; (conv => whnf); refine SCond.n (by exact rfl) ?_; (conv => whnf); refine SPick.n (by exact rfl) ?_; (conv => whnf); refine SIf.y Ty.mixed (by assumption) ?_; (conv => whnf); refine SStore.on 1 rfl ?_; (conv => whnf)
        refine SLoad.on 1 rfl ?_; (conv => whnf); exact .v (le_setBox (hσ _ h1) hb2') weak_sub0
    · have hu' : upTo l l.length = false := by simpa using hu
      rw [hu']
      have hdec : dec1 l = (sub0, 11) := if_neg fun h => hu h.1
      rw [hdec]
      (conv => whnf); refine SCond.y (by exact rfl) ?_; (conv => whnf); refine SCond.y (by exact rfl) ?_; (conv => whnf); refine SCond.y (by exact rfl) ?_; (conv => whnf); refine SCond.y (by exact rfl) ?_; (conv => whnf); refine SCond.y (by exact rfl) ?_; (conv => whnf); refine SCond.y (by exact rfl) ?_; (conv => whnf); refine SCond.y (by exact rfl) ?_; (conv => whnf)
      refine SCond.y (by exact rfl) ?_; (conv => whnf); refine SPick.y (by exact rfl) ?_; (conv => whnf); refine SIf.y Ty.mixed (by exact rfl) ?_; (conv => whnf); refine SStore.on 1 rfl ?_; (conv => whnf); refine SLoad.on 1 rfl ?_; (conv => whnf); exact .v (le_setBox (hσ _ h1) hb2') weak_sub0
end Go.Proofs.YtkbmkhhcppfcnaaDoor
end
section
set_option linter.unusedVariables false
set_option linter.unusedSimpArgs false
namespace Go.Proofs.YtkbmkhhcppfcnaaDoor
open Go.Al
def diffs (lo : Int) : List Int → List Int
  | [] => []
  | a :: l => ((clampN (w64 (a - lo)) : Nat) : Int) :: diffs a l
theorem at_self (v : List UInt8) : At v 0 (v ++ []) := by rw [List.append_nil]; exact at_start v
structure MsgFit (m : Msg) : Prop where
  tries : n53 m.tries
  until_ : n53 m.until_
  prio : n53 m.prio
theorem MsgOk.fit {c mo le : Int} {m : Msg} (h : MsgOk c mo le m) (hc : 0 ≤ c ∧ c ≤ 1000000000000000) (hm : 1 ≤ mo ∧ mo ≤ 9) (hl : 1 ≤ le ∧ le ≤ 1000) : MsgFit m := by
  have hp := h.prio
  rcases h.st with ⟨h1, h2, h3, h4⟩ | ⟨h1, h2, h3, h4⟩ | ⟨h1, h3, h4, h2⟩ <;> exact ⟨⟨by omega, by omega⟩, ⟨by omega, by omega⟩, ⟨by omega, by omega⟩⟩
end Go.Proofs.YtkbmkhhcppfcnaaDoor
end
section
set_option linter.unusedVariables false
set_option linter.unusedSimpArgs false
namespace Go.Proofs.YtkbmkhhcppfcnaaDoor
open Go.Al
structure MsgG (m : Msg) : Prop where
  body : m.body.length ≤ 60
  attr : m.attr.length ≤ 30
  fit : MsgFit m
  dead : decide (((clampN (deadN m) : Nat) : Int) = 1) = m.dead
  why : whyN (min (clampN (deathN m)) 2) = m.why
  calm : m.dead = false → m.why = []
structure Good2 (x : Sub) : Prop where
  name : x.name.length ≤ 30
  topic : x.topic.length ≤ 30
  want : x.want.length ≤ 30
  note : x.note.length ≤ 30
  id : 0 ≤ x.id ∧ x.id ≤ 9999999999
  lease : n53 x.lease
  most : n53 x.most
  floor : n53 x.floor
  nacks : x.acks.length ≤ 100000
  rise : Rise x.floor x.acks
  high : ∀ a ∈ x.acks, a < (9999999999 : Nat)
  qrise : Rise x.floor (x.queue.map Msg.seq)
  qhigh : ∀ m ∈ x.queue, m.seq ≤ 9999999999
  msgs : ∀ m ∈ x.queue, MsgG m
theorem n2_at {v : List UInt8} {a : Nat} {n : Int} {r : List UInt8} (h : At v a (num n ++ r)) : n2 v (a, false) = (clampN n, a + (num n).length, false) ∧ At v (a + (num n).length) r := by
  obtain ⟨g1, gp2⟩ := getNum_at h
  refine ⟨?_, gp2⟩
  rw [n2, g1, if_neg (by simp)]
theorem t2_at {v : List UInt8} {a most : Nat} {s : List UInt8} {r : List UInt8} (h : At v a (txt s ++ r)) (hs : s.length ≤ most) (hm : most ≤ 9007199254740992) : t2 v (a, false) most = (s, a + (txt s).length, false) ∧ At v (a + (txt s).length) r := by
  obtain ⟨g1, gp2⟩ := getText_at h hs hm
  refine ⟨?_, gp2⟩
  rw [t2, g1, if_neg (by simp)]
theorem Rise.apart : ∀ {l : List Int} {lo : Int}, Rise lo l → l.Pairwise (· ≠ ·)
  | [], _, _ => .nil
  | a :: l, lo, h => .cons (fun b hb => by have := h.2.lt b hb; omega) h.2.apart
def hb2 (m : Msg) : Msg := { msg0 m.seq with body := m.body }
def hq2 (m : Msg) : Msg := { m with prio := 0, why := [] }
end Go.Proofs.YtkbmkhhcppfcnaaDoor
end
section
set_option linter.unusedVariables false
set_option linter.unusedSimpArgs false
namespace Go.Proofs.YtkbmkhhcppfcnaaDoor
open Go.Al
theorem parts1 {t : UInt8} (ht : 97 ≤ t.toNat ∧ t.toNat ≤ 122) {id seq : Int} (h1 : 0 ≤ id ∧ id ≤ 9999999999) (h2 : 0 ≤ seq ∧ seq ≤ 9999999999) : parts (rkey 1 t id seq) = ⟨1, t, id, seq, true⟩ := by
  have := parts_rkey (v := 1) (by decide) ht id seq
  rw [cl_nn h1, cl_nn h2] at this
  exact this
theorem add1_at {t : UInt8} (ht : 97 ≤ t.toNat ∧ t.toNat ≤ 122) {id seq : Int} (h1 : 0 ≤ id ∧ id ≤ 9999999999) (h2 : 0 ≤ seq ∧ seq ≤ 9999999999) (v : List UInt8) (y : Sub) : add1 y ⟨rkey 1 t id seq, v⟩ = tell1 t seq v { y with id := id } := by
  rw [add1]
  dsimp only
  rw [parts1 ht h1 h2]
theorem more1_past (v : List UInt8) (s : Int) : ∀ {l : List Msg} (r : List Msg) (st : Nat × Bool), (∀ m ∈ l, m.seq ≠ s) → more1 v s (l ++ r) st = l ++ more1 v s r st
  | [], r, st, _ => rfl
  | m :: l, r, st, h => by
    rw [List.cons_append, more1, if_neg (h m (by simp)), more1_past v s r st fun x hx => h x (by simp [hx])]; rfl
theorem more1_none (v : List UInt8) (s : Int) : ∀ {l : List Msg} (st : Nat × Bool), (∀ m ∈ l, m.seq ≠ s) → more1 v s l st = l
  | [], st, _ => rfl
  | m :: l, st, h => by rw [more1, if_neg (h m (by simp)), more1_none v s st fun x hx => h x (by simp [hx])]
theorem msg1_at {m : Msg} (h : MsgG m) : msg1 (qB m) m.seq = hq2 m := by
  have h0 := at_self (qB m)
  have e : qB m ++ [] = txt m.body ++ (txt m.attr ++ (num m.tries ++ (num m.until_ ++ (num (deadN m) ++ [])))) := by simp [qB]
  rw [e] at h0
  obtain ⟨r0, h0⟩ := t2_at h0 h.body (by decide)
  obtain ⟨r1, h1⟩ := t2_at h0 h.attr (by decide)
  obtain ⟨r2, h2⟩ := n2_at h1
  obtain ⟨r3, h3⟩ := n2_at h2
  obtain ⟨r4, h4⟩ := n2_at h3
  simp only [msg1, r0, r1, r2, r3, r4]
  rw [clampN_53 h.fit.tries, clampN_53 h.fit.until_, h.dead]
  rfl
theorem sS1_at {x : Sub} (h : Good2 x) (y : Sub) : sS1 (sB x) y = { y with name := x.name, topic := x.topic, lease := x.lease, most := x.most, floor := x.floor } := by
  have h0 := at_self (sB x)
  have e : sB x ++ [] = txt x.name ++ (txt x.topic ++ (num x.lease ++ (num x.most ++ (num x.floor ++ [])))) := by simp [sB]
  rw [e] at h0
  obtain ⟨r1, h1⟩ := t2_at h0 h.name (by decide)
  obtain ⟨r2, h2⟩ := t2_at h1 h.topic (by decide)
  obtain ⟨r4, h4⟩ := n2_at h2
  obtain ⟨r5, h5⟩ := n2_at h4
  obtain ⟨r6, h6⟩ := n2_at h5
  simp only [sS1, r1, r2, r4, r5, r6]
  rw [clampN_53 h.lease, clampN_53 h.most, clampN_53 h.floor]
theorem more1_at {m : Msg} (h : MsgG m) {pre post : List Msg} (h1 : ∀ a ∈ pre, a.seq ≠ m.seq) (h2 : ∀ a ∈ post, a.seq ≠ m.seq) : more1 (xB m) m.seq (pre ++ hq2 m :: post) (0, false) = pre ++ m :: post := by
  have h0 := at_self (xB m)
  have e : xB m ++ [] = num m.prio ++ (num (deathN m) ++ []) := by simp [xB]
  rw [e] at h0
  obtain ⟨r1, k1⟩ := n2_at h0
  obtain ⟨r2, k2⟩ := n2_at k1
  rw [more1_past _ _ _ _ h1, more1, if_pos (show (hq2 m).seq = m.seq from rfl), r1, r2, more1_none _ _ _ h2, clampN_53 h.fit.prio, h.why]
  rfl
theorem acks_back {id : Int} (hid : 0 ≤ id ∧ id ≤ 9999999999) : ∀ (l : List Int) (y : Sub), (∀ a ∈ l, 0 ≤ a ∧ a ≤ 9999999999) → ∃ i, (l.map (ack1 id)).foldl add1 y = { y with id := i, acks := y.acks ++ l }
  | [], y, _ => ⟨y.id, by simp⟩
  | a :: l, y, h => by
    rw [List.map_cons, List.foldl_cons, ack1, add1_at (by decide) hid (h a (by simp)), tell1, if_pos rfl]
    obtain ⟨i, hi⟩ := acks_back hid l { y with id := id, acks := y.acks ++ [a] } fun b hb => h b (by simp [hb])
    exact ⟨i, by rw [hi]; simp⟩
theorem queue_back {id : Int} (hid : 0 ≤ id ∧ id ≤ 9999999999) : ∀ (l : List Msg) (y : Sub), (∀ m ∈ l, MsgG m ∧ 0 ≤ m.seq ∧ m.seq ≤ 9999999999) → ∃ i, (l.map (q1 id)).foldl add1 y = { y with id := i, queue := y.queue ++ l.map hq2 }
  | [], y, _ => ⟨y.id, by simp⟩
  | m :: l, y, h => by
    obtain ⟨hg, hs⟩ := h m (by simp)
    rw [List.map_cons, List.foldl_cons, q1, add1_at (by decide) hid hs, tell1, if_neg (show ¬ (113 : UInt8) = 97 by decide), if_neg (show ¬ (113 : UInt8) = 110 by decide), if_pos rfl, msg1_at hg]
    obtain ⟨i, hi⟩ := queue_back hid l { y with id := id, queue := y.queue ++ [hq2 m] } fun b hb => h b (by simp [hb])
    exact ⟨i, by rw [hi]; simp⟩
theorem more_back {id : Int} (hid : 0 ≤ id ∧ id ≤ 9999999999) : ∀ (q pre : List Msg) (y : Sub), (∀ m ∈ q, MsgG m ∧ 0 ≤ m.seq ∧ m.seq ≤ 9999999999) → (∀ a ∈ pre, ∀ m ∈ q, a.seq ≠ m.seq) → (q.map Msg.seq).Pairwise (· ≠ ·) → y.queue = pre ++ q.map hq2 →
    ∃ i, (i = y.id ∨ i = id) ∧ (q.flatMap (x1 id)).foldl add1 y = { y with id := i, queue := pre ++ q }
  | [], pre, y, _, _, _, hy => ⟨y.id, .inl rfl, by cases y; simp at hy; simp [hy]⟩
  | m :: q, pre, y, hr, hp, hd, hy => by
    obtain ⟨hg, hs⟩ := hr m (by simp)
    have hd' : (q.map Msg.seq).Pairwise (· ≠ ·) := by
      rw [List.map_cons, List.pairwise_cons] at hd; exact hd.2
    have hne : ∀ a ∈ q, m.seq ≠ a.seq := fun a ha => by
      rw [List.map_cons, List.pairwise_cons] at hd
      exact hd.1 _ (List.mem_map.2 ⟨a, ha, rfl⟩)
    have hpre : ∀ a ∈ pre ++ [m], ∀ b ∈ q, a.seq ≠ b.seq := fun a ha b hb => by
      rcases List.mem_append.1 ha with ha | ha
      · exact hp a ha b (by simp [hb])
      · obtain rfl := List.mem_singleton.1 ha
        exact hne b hb
    rw [List.flatMap_cons, List.foldl_append]
    by_cases hx : m.prio ≠ 0 ∨ m.dead = true
    · have e1 : x1 id m = [⟨rkey 1 120 id m.seq, xB m⟩] := by simp only [x1, if_pos hx]
      have e2 : more1 (xB m) m.seq y.queue (0, false) = (pre ++ [m]) ++ q.map hq2 := by
        rw [hy, List.map_cons, more1_at hg (fun a ha => hp a ha m (by simp)) (fun a ha => by
          obtain ⟨b, hb, rfl⟩ := List.mem_map.1 ha
          exact (hne b hb).symm)]
        simp
      rw [e1, List.foldl_cons, List.foldl_nil, add1_at (by decide) hid hs, tell1, if_neg (show ¬ (120 : UInt8) = 97 by decide), if_neg (show ¬ (120 : UInt8) = 110 by decide), if_neg (show ¬ (120 : UInt8) = 113 by decide), if_neg (show ¬ (120 : UInt8) = 115 by decide), if_neg (show ¬ (120 : UInt8) = 119 by decide), if_pos rfl]
      obtain ⟨i, hi, e⟩ := more_back hid q (pre ++ [m]) { y with id := id, queue := more1 (xB m) m.seq y.queue (0, false) } (fun b hb => hr b (by simp [hb])) hpre hd' e2
      refine ⟨i, .inr (by rcases hi with hi | hi <;> exact hi), ?_⟩
      rw [e]; simp
    · have e1 : x1 id m = [] := by simp only [x1, if_neg hx]
      have hm : hq2 m = m := by
        have hp : m.prio = 0 := by
          by_cases hp : m.prio = 0
          · exact hp
          · exact absurd (.inl hp) hx
        have hdd : m.dead = false := by
          cases hdd : m.dead
          · rfl
          · exact absurd (.inr hdd) hx
        have hw := hg.calm hdd
        cases m; simp at hp hw; simp [hq2, hp, hw]
      rw [e1, List.foldl_nil]
      obtain ⟨i, hi, e⟩ := more_back hid q (pre ++ [m]) y (fun b hb => hr b (by simp [hb])) hpre hd' (by rw [hy, List.map_cons, hm]; simp)
      exact ⟨i, hi, by rw [e]; simp⟩
theorem rows1_back {x : Sub} (h : Good2 x) : rows1 (enc1 x) = x := by
  have hf := h.floor.1
  have hak : ∀ a ∈ x.acks, 0 ≤ a ∧ a ≤ 9999999999 := fun a ha => by
    have h1 := h.high a ha
    have h2 := h.rise.lt a ha
    omega
  have hms : ∀ m ∈ x.queue, MsgG m ∧ 0 ≤ m.seq ∧ m.seq ≤ 9999999999 := fun m hm => by
    have h1 := h.qhigh m hm
    have h2 := h.qrise.lt m.seq (List.mem_map.2 ⟨m, hm, rfl⟩)
    exact ⟨h.msgs m hm, by omega, h1⟩
  have hap := h.qrise.apart
  have h0 : (0 : Int) ≤ 0 ∧ (0 : Int) ≤ 9999999999 := by omega
  have s3 : ∀ y : Sub, y.note = [] → ∃ i, (note1 x).foldl add1 y = { y with id := i, note := x.note } := by
    intro y hy
    unfold note1
    split
    · rename_i he; exact ⟨y.id, by cases y; simp at hy; simp [hy, he]⟩
    · refine ⟨x.id, ?_⟩
      rw [List.foldl_cons, List.foldl_nil, add1_at (by decide) h.id h0, tell1, if_neg (show ¬ (110 : UInt8) = 97 by decide), if_pos rfl, (t2_at (at_self (txt x.note)) h.note (by decide)).1]
  have s5 : ∀ y : Sub, [s1 x].foldl add1 y = { y with id := x.id, name := x.name, topic := x.topic, lease := x.lease, most := x.most, floor := x.floor } := by
    intro y
    rw [List.foldl_cons, List.foldl_nil, s1, add1_at (by decide) h.id h0, tell1, if_neg (show ¬ (115 : UInt8) = 97 by decide), if_neg (show ¬ (115 : UInt8) = 110 by decide), if_neg (show ¬ (115 : UInt8) = 113 by decide), if_pos rfl, sS1_at h]
  have s6 : ∀ y : Sub, y.want = [] → y.id = x.id → (want1 x).foldl add1 y = { y with want := x.want } := by
    intro y hy hi
    unfold want1
    split
    · rename_i he; cases y; simp at hy; simp [hy, he]
    · rw [List.foldl_cons, List.foldl_nil, add1_at (by decide) h.id h0, tell1, if_neg (show ¬ (119 : UInt8) = 97 by decide), if_neg (show ¬ (119 : UInt8) = 110 by decide), if_neg (show ¬ (119 : UInt8) = 113 by decide), if_neg (show ¬ (119 : UInt8) = 115 by decide), if_pos rfl, (t2_at (at_self (txt x.want)) h.want (by decide)).1]
      cases y; simp at hi; simp [hi]
  unfold rows1 enc1 encB encA
  rw [List.foldl_append, List.foldl_append, List.foldl_append, List.foldl_append, List.foldl_append]
  obtain ⟨i1, e1⟩ := acks_back h.id x.acks sub0 hak
  rw [e1]
  obtain ⟨i2, e2⟩ := s3 _ (show ({ sub0 with id := i1, acks := sub0.acks ++ x.acks } : Sub).note = [] from rfl)
  rw [e2]
  obtain ⟨i3, e3⟩ := queue_back h.id x.queue { ({ sub0 with id := i1, acks := sub0.acks ++ x.acks } : Sub) with id := i2, note := x.note } hms
  rw [e3, s5]
  rw [s6 _ (by rfl) (by rfl)]
  obtain ⟨i4, h4, e4⟩ := more_back h.id x.queue [] { x with queue := x.queue.map hq2 } hms (by simp) hap rfl
  have h5 : i4 = x.id := by rcases h4 with h4 | h4 <;> exact h4
  rw [h5] at e4
  refine Eq.trans (congrArg (fun y => List.foldl add1 y (x.queue.flatMap (x1 x.id))) (?_ : _ = { x with queue := x.queue.map hq2 })) (e4.trans (by simp))
  simp [sub0]
end Go.Proofs.YtkbmkhhcppfcnaaDoor
end
section
set_option linter.unusedVariables false
set_option linter.unusedSimpArgs false
namespace Go.Proofs.YtkbmkhhcppfcnaaDoor
open Go.Al
theorem Up.app {l m : List Row} (h1 : Up l) (h2 : Up m) (h : ∀ a ∈ l, ∀ b ∈ m, ltS a.key b.key = true) : Up (l ++ m) := List.pairwise_append.2 ⟨h1, h2, h⟩
def InT (t : Nat) (id : Int) (l : List Row) : Prop := ∀ r ∈ l, ∃ u seq, u.toNat = t ∧ r.key = rkey 2 u id seq
theorem all_app {l m n : List Row} (h1 : ∀ a ∈ l, ∀ b ∈ n, ltS a.key b.key = true) (h2 : ∀ a ∈ m, ∀ b ∈ n, ltS a.key b.key = true) : ∀ a ∈ l ++ m, ∀ b ∈ n, ltS a.key b.key = true := fun a ha b hb => by
  rcases List.mem_append.1 ha with ha | ha
  · exact h1 a ha b hb
  · exact h2 a ha b hb
theorem up1 (l : List Row) (h : l.length ≤ 1) : Up l := by
  match l, h with
  | [], _ => exact .nil
  | [a], _ => exact .cons (by simp) .nil
end Go.Proofs.YtkbmkhhcppfcnaaDoor
end
section
set_option linter.unusedVariables false
set_option linter.unusedSimpArgs false
namespace Go.Proofs.YtkbmkhhcppfcnaaDoor
open Go.Al
def InV (v t : Nat) (id : Int) (l : List Row) : Prop := ∀ r ∈ l, ∃ u seq, u.toNat = t ∧ r.key = rkey v u id seq
theorem inV_lt {v s t : Nat} {id : Int} {l m : List Row} (hv : v < 10) (h1 : InV v s id l) (h2 : InV v t id m) (h : s < t) : ∀ a ∈ l, ∀ b ∈ m, ltS a.key b.key = true := fun a ha b hb => by
  obtain ⟨u, i, hu, e⟩ := h1 a ha
  obtain ⟨w, j, hw, f⟩ := h2 b hb
  rw [e, f]
  exact rkey_table v (by omega) id i j
theorem acks_in1 (x : Sub) : InV 1 97 x.id (x.acks.map (ack1 x.id)) := fun r hr => by
  obtain ⟨m, hm, rfl⟩ := List.mem_map.1 hr
  exact ⟨97, m, rfl, rfl⟩
theorem note1_in (x : Sub) : InV 1 110 x.id (note1 x) := fun r hr => by
  unfold note1 at hr
  split at hr
  · simp at hr
  · obtain rfl := List.mem_singleton.1 hr; exact ⟨110, 0, rfl, rfl⟩
theorem q1_in (x : Sub) : InV 1 113 x.id (x.queue.map (q1 x.id)) := fun r hr => by
  obtain ⟨m, hm, rfl⟩ := List.mem_map.1 hr
  exact ⟨113, m.seq, rfl, rfl⟩
theorem s1_in (x : Sub) : InV 1 115 x.id [s1 x] := fun r hr => by
  obtain rfl := List.mem_singleton.1 hr; exact ⟨115, 0, rfl, rfl⟩
theorem want1_in (x : Sub) : InV 1 119 x.id (want1 x) := fun r hr => by
  unfold want1 at hr
  split at hr
  · simp at hr
  · obtain rfl := List.mem_singleton.1 hr; exact ⟨119, 0, rfl, rfl⟩
theorem x1_mem {id : Int} {q : List Msg} {r : Row} (h : r ∈ q.flatMap (x1 id)) : ∃ m ∈ q, r = ⟨rkey 1 120 id m.seq, xB m⟩ := by
  obtain ⟨m, hm, h⟩ := List.mem_flatMap.1 h
  unfold x1 at h
  split at h
  · obtain rfl := List.mem_singleton.1 h; exact ⟨m, hm, rfl⟩
  · simp at h
theorem x1_in (x : Sub) : InV 1 120 x.id (x.queue.flatMap (x1 x.id)) := fun r hr => by
  obtain ⟨m, hm, rfl⟩ := x1_mem hr
  exact ⟨120, m.seq, rfl, rfl⟩
theorem acks_up (id : Int) : ∀ (l : List Int) (lo : Int), 0 ≤ lo → Rise lo l → (∀ a ∈ l, a ≤ 9999999999) → Up (l.map (ack1 id))
  | [], _, _, _, _ => .nil
  | a :: l, lo, h0, h, hh => by
    have h1 : lo < a := h.1
    rw [List.map_cons]
    refine .cons (fun b hb => ?_) (acks_up id l a (by omega) h.2 fun x hx => hh x (by simp [hx]))
    obtain ⟨y, hy, rfl⟩ := List.mem_map.1 hb
    exact rkey_seq 1 97 id (by omega) (h.2.lt y hy) (hh y (by simp [hy]))
theorem x1_up (id : Int) : ∀ (q : List Msg) (lo : Int), 0 ≤ lo → Rise lo (q.map Msg.seq) → (∀ m ∈ q, m.seq ≤ 9999999999) → Up (q.flatMap (x1 id))
  | [], _, _, _, _ => .nil
  | m :: q, lo, h0, h, hh => by
    have h1 : lo < m.seq := h.1
    rw [List.flatMap_cons]
    refine Up.app (up1 _ (x1_len id m)) (x1_up id q m.seq (by omega) h.2 fun x hx => hh x (by simp [hx])) fun a ha b hb => ?_
    obtain ⟨y, hy, rfl⟩ := x1_mem hb
    have ha' : a = ⟨rkey 1 120 id m.seq, xB m⟩ := by
      unfold x1 at ha
      split at ha
      · exact List.mem_singleton.1 ha
      · simp at ha
    subst ha'
    have : m.seq < y.seq := h.2.lt _ (List.mem_map.2 ⟨y, hy, rfl⟩)
    exact rkey_seq 1 120 id (by omega) this (hh y (by simp [hy]))
theorem enc1_up {x : Sub} (h : Good2 x) : Up (enc1 x) := by
  have hf := h.floor.1
  have a1 : Up (x.acks.map (ack1 x.id)) := acks_up x.id x.acks x.floor hf h.rise fun a ha => by have := h.high a ha; omega
  have a2 : Up (note1 x) := up1 _ (note1_len x)
  have a3 : Up (x.queue.map (q1 x.id)) := rise_rows 1 113 x.id qB x.queue x.floor hf h.qrise h.qhigh
  have a4 : Up [s1 x] := up1 _ (by simp)
  have a5 : Up (want1 x) := up1 _ (want1_len x)
  have a6 : Up (x.queue.flatMap (x1 x.id)) := x1_up x.id x.queue x.floor hf h.qrise h.qhigh
  have t1 := acks_in1 x
  have t2 := note1_in x
  have t3 := q1_in x
  have t4 := s1_in x
  have t5 := want1_in x
  have t6 := x1_in x
  refine (((((a1.app a2 ?_).app a3 ?_).app a4 ?_).app a5 ?_).app a6 ?_)
  · exact inV_lt (by decide) t1 t2 (by decide)
  · exact all_app (inV_lt (by decide) t1 t3 (by decide)) (inV_lt (by decide) t2 t3 (by decide))
  · exact all_app (all_app (inV_lt (by decide) t1 t4 (by decide)) (inV_lt (by decide) t2 t4 (by decide))) (inV_lt (by decide) t3 t4 (by decide))
  · exact all_app (all_app (all_app (inV_lt (by decide) t1 t5 (by decide)) (inV_lt (by decide) t2 t5 (by decide))) (inV_lt (by decide) t3 t5 (by decide))) (inV_lt (by decide) t4 t5 (by decide))
  · exact all_app (all_app (all_app (all_app (inV_lt (by decide) t1 t6 (by decide)) (inV_lt (by decide) t2 t6 (by decide))) (inV_lt (by decide) t3 t6 (by decide))) (inV_lt (by decide) t4 t6 (by decide))) (inV_lt (by decide) t5 t6 (by decide))
theorem dec1_back {x : Sub} (h : Good2 x) : dec1 (enc1 x) = (x, 0) := by
  have hr := rows1_back h
  rw [dec1, hr, if_pos ⟨upTo_up (enc1_up h) _ (Nat.le_refl _), rfl⟩]
end Go.Proofs.YtkbmkhhcppfcnaaDoor
end
section
set_option linter.unusedVariables false
set_option linter.unusedSimpArgs false
set_option maxRecDepth 100000
set_option maxHeartbeats 1000000
namespace Go.Proofs.YtkbmkhhcppfcnaaDoor
open Go.Al Go.RowKit
def V0 : List UInt8 := [1, 110, 1, 35, 0, 1, 1, 0, 0]
def x0 : Sub := ⟨1, [110], [35], [], 1, 1, 0, [], [], []⟩
def z0 : Sub := ⟨0, [], [], [], 0, 0, 0, [], [], []⟩
def row0 : Row := ⟨rkey 3 115 1 0, V0⟩
theorem fits_x0 : Fits x0 := ⟨by decide, by decide, by decide, by decide, by decide, by decide, by simp [x0]⟩
def xA : AV := .agg [.int .i64 1, .str [110], .str [35], .str [], .int .i64 1, .int .i64 1, .int .i64 0, .nils, .nils, .str []]
def zA : AV := .agg [.int .i64 0, .str [], .str [], .str [], .int .i64 0, .int .i64 0, .int .i64 0, .nils, .nils, .str []]
theorem weak_x0 : Weak (eSub x0) xA := .agg (.cons (.refl _) (.cons (.refl _) (.cons (.refl _) (.cons (.refl _) (.cons (.refl _) (.cons (.refl _) (.cons (.refl _) (.cons (.nils _ _ (.inl rfl)) (.cons (.nils _ _ (.inl rfl)) (.cons (.refl _) .nil)))))))))) (by decide)
end Go.Proofs.YtkbmkhhcppfcnaaDoor
end
section
set_option linter.unusedVariables false
set_option linter.unusedSimpArgs false
set_option maxRecDepth 100000
set_option maxHeartbeats 2000000
namespace Go.Proofs.YtkbmkhhcppfcnaaDoor
open Go.Al Go.RowKit
def subC (x : Sub) (ta tq : Tok) : List AV := [.int .i64 x.id, .str x.name, .str x.topic, .str x.want, .int .i64 x.lease, .int .i64 x.most, .int .i64 x.floor, .slc 1 (x.acks.map (.int .i64)) ta, .slc 8 (x.queue.map eMsg) tq, .str x.note]
def msgC (m : Msg) : List AV := [.int .i64 m.seq, .str m.body, .str m.attr, .int .i64 m.tries, .int .i64 m.until_, .bool m.dead, .str m.why, .int .i64 m.prio]
def z10 : List AV := [.int .i64 0, .str [], .str [], .str [], .int .i64 0, .int .i64 0, .int .i64 0, .nils, .nils, .str []]
structure InSub (σ s : St) (b8 bx : Nat) (x : Sub) (ta tq : Tok) : Prop where
  r : s.box b8 = some z10
  b : s.box bx = some (subC x ta tq)
  ma : Moves σ .full s ta
  mq : Moves σ .full s tq
  d : ∀ p, tq = .own p → ta ≠ .own p
theorem InSub.set {σ s : St} {b8 bx : Nat} {x x' : Sub} {ta tq : Tok} (h : InSub σ s b8 bx x ta tq) (hne : b8 ≠ bx) (hbx : σ.box bx = none) : InSub σ (s.setBox bx (subC x' ta tq)) b8 bx x' ta tq :=
  ⟨hb_ne hne h.r, setBox_same, h.ma.new hbx, h.mq.new hbx, h.d⟩
theorem InSub.other {σ s : St} {b8 bx b : Nat} {x : Sub} {ta tq : Tok} {cs : List AV} (h : InSub σ s b8 bx x ta tq) (h8 : b8 ≠ b) (hx : bx ≠ b) (hb : σ.box b = none) : InSub σ (s.setBox b cs) b8 bx x ta tq :=
  ⟨hb_ne h8 h.r, hb_ne hx h.b, h.ma.new hb, h.mq.new hb, h.d⟩
theorem InSub.acks {σ s σ1 : St} {b8 bx : Nat} {x x' : Sub} {ta tq tk : Tok} (h : InSub σ s b8 bx x ta tq) (hne : b8 ≠ bx) (hbx : σ.box bx = none) (hm : Moves s ta σ1 tk) : InSub σ (σ1.setBox bx (subC x' tk tq)) b8 bx x' tk tq := by
  obtain ⟨h1, h2, h3⟩ := Moves.two h.ma h.mq h.d hm
  exact ⟨hb_ne hne (hm.box _ _ h.r), setBox_same, h1.new hbx, h2.new hbx, h3⟩
theorem InSub.queue {σ s σ1 : St} {b8 bx : Nat} {x x' : Sub} {ta tq tk : Tok} (h : InSub σ s b8 bx x ta tq) (hne : b8 ≠ bx) (hbx : σ.box bx = none) (hm : Moves s tq σ1 tk) : InSub σ (σ1.setBox bx (subC x' ta tk)) b8 bx x' ta tk := by
  obtain ⟨h1, h2, h3⟩ := Moves.two h.mq h.ma (fun p e e' => h.d p e' e) hm
  exact ⟨hb_ne hne (hm.box _ _ h.r), setBox_same, h2.new hbx, h1.new hbx, fun p e e' => h3 p e' e⟩
end Go.Proofs.YtkbmkhhcppfcnaaDoor
end
section
set_option linter.unusedVariables false
set_option linter.unusedSimpArgs false
set_option maxRecDepth 100000
set_option maxHeartbeats 1000000
namespace Go.Proofs.YtkbmkhhcppfcnaaDoor
open Go.Al Go.RowKit
theorem good_x01 : Good2 x0 := ⟨by decide, by decide, by decide, by decide, by decide, ⟨by decide, by decide⟩, ⟨by decide, by decide⟩, ⟨by decide, by decide⟩, by decide, trivial, by simp [x0], trivial, by simp [x0], by simp [x0]⟩
theorem enc1_x0 : enc1 x0 = [s1 x0] := by simp [enc1, encB, encA, note1, want1, x0]
theorem dec1_nil : dec1 [] = (sub0, 11) := by
  have : enc1 (rows1 []) ≠ [] := by simp [enc1, encB]
  rw [dec1, if_neg fun h => this h.2]
theorem known1_any (w0 : Base) (hL : Laid w0) : CallP Tryd.prog w0 22 [] (.bool true) := by
  have hen : CallP Tryd.prog w0 24 [xA] (.slc 2 [eRow (s1 x0)] .no) := fun σ => by
    have := enc1_p w0 hL x0 fits_x0 σ
    rw [enc1_x0] at this
    exact CallW.weak1 [] [] weak_x0 this
  have hdec : CallP Tryd.prog w0 26 [.slc 2 [eRow (s1 x0)] .no] (.tup [eSub x0, .int .u16 0]) := by
    have := dec1_p w0 hL [s1 x0] .no (by simp) (by
      have h1 := txt_len x0.name
      have h2 := txt_len x0.topic
      have h4 := num_len x0.lease
      have h5 := num_len x0.most
      have h6 := num_len x0.floor
      have h7 : x0.name.length + x0.topic.length ≤ 10 := by decide
      simp [s1, sB]; omega) (by simp [s1, rkey_length])
    rw [← enc1_x0, dec1_back good_x01, enc1_x0] at this
    exact this
  have hdn : CallP Tryd.prog w0 26 [.nils] (.tup [eSub sub0, .int .u16 11]) := fun σ => by
    have := dec1_p w0 hL [] .no (by simp) (by simp) (by simp)
    rw [dec1_nil] at this
    exact CallW.weak1 [] [] (.nils 2 .no (.inl rfl)) (this σ)
  generalize s1 x0 = r at hen hdec
  refine CallP.x Ty.tok Ty.mixed Tryd.func22 rfl Tryd.ntmps22 rfl (by simp) (by decide +kernel) fun σ => ?_
  (conv => whnf); refine SCall.p (by exact hen) ?_; (conv => whnf); refine SCall.p (by exact hdec) ?_; (conv => whnf); intro b1 hb1; (conv => whnf); refine SStore.on 0 rfl ?_; (conv => whnf); refine SCall.p (by exact hdn) ?_; (conv => whnf); intro b1 hb1; (conv => whnf); refine SStore.on 0 rfl ?_; (conv => whnf); refine SCond.y (by exact rfl) ?_; (conv => whnf); refine SCond.y (by exact rfl) ?_
  (conv => whnf); refine SPick.y (by exact rfl) ?_; (conv => whnf); refine SCond.y (by exact rfl) ?_; (conv => whnf); refine SCond.y (by exact rfl) ?_; (conv => whnf); refine SLoad.on 1 rfl ?_; (conv => whnf); refine SCond.y (by exact rfl) ?_; (conv => whnf); refine SPick.y (by exact rfl) ?_; (conv => whnf); refine SCond.y (by exact rfl) ?_; (conv => whnf); refine SCond.y (by exact rfl) ?_
  (conv => whnf); refine SLoad.on 1 rfl ?_; (conv => whnf); refine SCond.y (by exact rfl) ?_; (conv => whnf); refine SPick.y (by exact rfl) ?_; (conv => whnf); refine SCond.y (by exact rfl) ?_; (conv => whnf); refine SCond.y (by exact rfl) ?_; (conv => whnf); refine SPick.y (by exact rfl) ?_; (conv => whnf)
  exact .p (by repeat (first | assumption | exact .refl _ | refine le_new2 ?_ (by assumption) | refine le_new ?_ (by assumption) | refine le_setBox ?_ (by first | assumption | exact none_in (by assumption) | exact none_in (none_in (by assumption)) | exact none_in (none_in (none_in (by assumption))) | fail) | exact Moves.le (by assumption) | refine .trans ?_ (Moves.le (by assumption)))) rfl
end Go.Proofs.YtkbmkhhcppfcnaaDoor
end
section
set_option linter.unusedVariables false
set_option linter.unusedSimpArgs false
set_option maxRecDepth 100000
set_option maxHeartbeats 1000000
namespace Go.Proofs.YtkbmkhhcppfcnaaDoor
open Go.Al Go.RowKit
def tc (wt nt : List UInt8) (qv av : AV) : List AV := [.int .i64 4, .str [110], .str [35], .str wt, .int .i64 1, .int .i64 1, .int .i64 0, av, qv, .str nt]
def bN (b : Bool) : Int := if b = true then 1 else 0
def ntx (n : Bool) : List UInt8 := if n = true then [110] else []
def wtx (n : Bool) : List UInt8 := if n = true then [97, 61, 49] else []
def prx (n : Bool) : Int := if n = true then 2 else 0
def mtx (p : Bool) : Msg := ⟨99, [], [], 0, 0, false, [], prx p⟩
def akx (i : Nat) : List Int := (List.range i).map fun j => ((j : Nat) : Int) + 1
theorem akx_len (i : Nat) : (akx i).length = i := by simp [akx]
theorem akx_succ (i : Nat) : akx (i + 1) = akx i ++ [(i : Int) + 1] := by simp [akx, List.range_succ]
def subx (n w p : Bool) (i : Nat) : Sub := ⟨4, [110], [35], wtx w, 1, 1, 0, akx i, [mtx p], ntx n⟩
theorem subx_fits (n w p : Bool) (i : Nat) (h : i ≤ 100) : Fits (subx n w p i) := ⟨by show ([110] : List UInt8).length ≤ 1000; decide, by show ([35] : List UInt8).length ≤ 1000; decide, by show (wtx w).length ≤ 1000; cases w <;> decide, by show (ntx n).length ≤ 1000; cases n <;> decide, by show (akx i).length ≤ 100000; rw [akx_len]; omega, by show ([mtx p] : List Msg).length ≤ 100000; simp, by intro m hm; simp [subx] at hm; subst hm; simp [mtx]⟩
theorem subx_len (n w p : Bool) (i : Nat) : ((enc1 (subx n w p i)).length : Int) = 1 + bN n + bN w + bN p + 1 + i := by
  have h1 : ((note1 (subx n w p i)).length : Int) = bN n := by cases n <;> simp [note1, subx, ntx, bN]
  have h2 : ((want1 (subx n w p i)).length : Int) = bN w := by cases w <;> simp [want1, subx, wtx, bN]
  have h3 : (((subx n w p i).queue.flatMap (x1 (subx n w p i).id)).length : Int) = bN p := by cases p <;> simp [subx, x1, mtx, prx, bN]
  have h4 : ((subx n w p i).acks.map (ack1 (subx n w p i).id)).length = i := by rw [List.length_map]; exact akx_len i
  have h5 : ((subx n w p i).queue.map (q1 (subx n w p i).id)).length = 1 := by simp [subx]
  simp only [enc1, encB, encA, List.length_append, List.length_cons, List.length_nil]
  omega
theorem oneTables_any (w0 : Base) (hL : Laid w0) (n w p : Bool) (a : UInt8) (σ : St) : CallW Tryd.prog w0 9 [.bool n, .bool w, .bool p, .int .u8 a.toNat] σ (fun r _ => r = .bool true) := by
  have ha := a.toNat_lt
  refine CallW.x Ty.tok Ty.mixed Tryd.func9 rfl Tryd.ntmps9 rfl (by simp) (by decide +kernel) (.nil σ) ?_; (conv => whnf); intro b9 hb9; (conv => whnf); refine SStore.on 0 rfl ?_; (conv => whnf)
  rw [setBox_setBox]
  refine SIf.meet Ty.mixed (fun _ : Unit => [(1, .bool w), (2, .bool p), (3, .int .u8 a.toNat), (9, .ptr b9 0), (10, .int .i64 (1 + bN n))]) (fun _ => [(b9, tc [] (ntx n) .nils .nils)]) (fun _ s => True) ?_ ?_ ?_
  · rintro rfl
    (conv => whnf); refine SStore.on 0 rfl ?_; (conv => whnf); refine ⟨_, IntWalk.i64_in _ (by omega), ?_⟩; (conv => whnf)
    exact ⟨(), by repeat (first | exact trivial | refine ⟨by first | trivial | exact Weak.refl _ | exact Weak.tok _ _ _ | exact Weak.of_eq (congrArg (AV.int _) (by omega)) | exact Weak.of_eq (congrArg AV.bool (by fail)) | exact Weak.nils _ _ (.inr rfl), ?_⟩), .refl _, trivial⟩
  · rintro rfl
    (conv => whnf)
    skip
    exact ⟨(), by repeat (first | exact trivial | refine ⟨by first | trivial | exact Weak.refl _ | exact Weak.tok _ _ _ | exact Weak.of_eq (congrArg (AV.int _) (by omega)) | exact Weak.of_eq (congrArg AV.bool (by fail)) | exact Weak.nils _ _ (.inr rfl), ?_⟩), .refl _, trivial⟩
  rintro _ s _
  have hn1 : 0 ≤ bN n ∧ bN n ≤ 1 := by cases n <;> decide
  have hw1 : 0 ≤ bN w ∧ bN w ≤ 1 := by cases w <;> decide
  have hp1 : 0 ≤ bN p ∧ bN p ≤ 1 := by cases p <;> decide
  (conv => whnf)
  skip
  refine SIf.meet Ty.mixed (fun _ : Unit => [(2, .bool p), (3, .int .u8 a.toNat), (9, .ptr b9 0), (10, .int .i64 (1 + bN n + bN w))]) (fun _ => [(b9, tc (wtx w) (ntx n) .nils .nils)]) (fun _ s => True) ?_ ?_ ?_
  · rintro rfl
    (conv => whnf); refine SStore.on 0 rfl ?_; (conv => whnf); refine ⟨_, IntWalk.i64_in _ (by omega), ?_⟩; (conv => whnf)
    exact ⟨(), by repeat (first | exact trivial | refine ⟨by first | trivial | exact Weak.refl _ | exact Weak.tok _ _ _ | exact Weak.of_eq (congrArg (AV.int _) (by omega)) | exact Weak.of_eq (congrArg AV.bool (by fail)) | exact Weak.nils _ _ (.inr rfl), ?_⟩), .refl _, trivial⟩
  · rintro rfl
    (conv => whnf)
    skip
    refine ⟨(), ?_, .refl _, trivial⟩
    show xWeak [(2, .bool p), (3, .int .u8 a.toNat), (9, .ptr b9 0), (10, .int .i64 (1 + bN n + 0))] _
    rw [Int.add_zero]
    repeat (first | exact trivial | refine ⟨by first | trivial | exact Weak.refl _ | exact Weak.tok _ _ _ | exact Weak.of_eq (congrArg (AV.int _) (by omega)) | exact Weak.of_eq (congrArg AV.bool (by fail)) | exact Weak.nils _ _ (.inr rfl), ?_⟩)
  clear s; rintro _ s _; (conv => whnf); intro b11 hb11; (conv => whnf); refine SStore.on 0 rfl ?_; (conv => whnf)
  rw [setBox_setBox]
  refine SIf.meet Ty.mixed (fun _ : Unit => [(3, .int .u8 a.toNat), (9, .ptr b9 0), (11, .ptr b11 0), (10, .int .i64 (1 + bN n + bN w + bN p))]) (fun _ => [(b11, mc (mtx p)), (b9, tc (wtx w) (ntx n) .nils .nils)]) (fun _ s => True) ?_ ?_ ?_
  · rintro rfl
    (conv => whnf); refine SStore.on 0 rfl ?_; (conv => whnf); refine ⟨_, IntWalk.i64_in _ (by omega), ?_⟩; (conv => whnf)
    exact ⟨(), by repeat (first | exact trivial | refine ⟨by first | trivial | exact Weak.refl _ | exact Weak.tok _ _ _ | exact Weak.of_eq (congrArg (AV.int _) (by omega)) | exact Weak.of_eq (congrArg AV.bool (by fail)) | exact Weak.nils _ _ (.inr rfl), ?_⟩), .refl _, trivial⟩
  · rintro rfl
    (conv => whnf)
    skip
    refine ⟨(), ?_, .refl _, trivial⟩
    show xWeak [(3, .int .u8 a.toNat), (9, .ptr b9 0), (11, .ptr b11 0), (10, .int .i64 (1 + bN n + bN w + 0))] _
    rw [Int.add_zero]
    repeat (first | exact trivial | refine ⟨by first | trivial | exact Weak.refl _ | exact Weak.tok _ _ _ | exact Weak.of_eq (congrArg (AV.int _) (by omega)) | exact Weak.of_eq (congrArg AV.bool (by fail)) | exact Weak.nils _ _ (.inr rfl), ?_⟩)
  clear hb11 s; rintro _ s _; (conv => whnf); refine SLoad.on 0 rfl ?_; (conv => whnf); refine SStore.on 1 rfl ?_; (conv => whnf)
  have hd : a.toNat % 20 ≤ 100 := by omega
  refine SLoop.wk 1 rfl (ds := tc (wtx w) (ntx n) (.slc 8 [eMsg (mtx p)] .full) (.slc 1 [] .full)) (.cons (.refl _) (.cons (.refl _) (.cons (.refl _) (.cons (.refl _) (.cons (.refl _) (.cons (.refl _) (.cons (.refl _) (.cons (.nils 1 .full (.inr rfl)) (.cons (.refl _) (.cons (.refl _) .nil)))))))))) ?_
  rw [setBox_setBox]
  refine SLoop.by Ty.mixed (fun (x : Nat × Tok) => a.toNat % 20 - x.1) (fun (i, tk) => [(3, .int .u8 a.toNat), (9, .ptr b9 0), (10, .int .i64 (1 + bN n + bN w + bN p)), (12, .int .i64 i)]) (fun (i, tk) => [(b9, tc (wtx w) (ntx n) (.slc 8 [eMsg (mtx p)] .full) (.slc 1 ((akx i).map (.int .i64)) tk))]) (fun (i, tk) s' => i ≤ a.toNat % 20 ∧ Moves (s.setBox b9 (tc (wtx w) (ntx n) (.slc 8 [eMsg (mtx p)] .full) (.slc 1 ((akx i).map (.int .i64)) tk))) .full s' tk) (0, .full) ⟨by repeat (first | exact trivial | refine ⟨by first | trivial | exact Weak.refl _ | exact Weak.tok _ _ _ | exact Weak.of_eq (congrArg (AV.int _) (by omega)) | exact Weak.of_eq (congrArg AV.bool (by fail)) | exact Weak.nils _ _ (.inr rfl), ?_⟩), .drop (.refl _), Nat.zero_le _, .full _⟩ ?_
  rintro ⟨i, tk⟩ s' ⟨hi, hm0⟩
  have hal := akx_len i
  (conv => whnf); refine And.intro (by omega) ?_; (conv => whnf); refine ⟨_, IntWalk.i64_in _ (by omega), ?_⟩; (conv => whnf)
  (refine SIf.x Ty.mixed (fun hc => ?_) (fun hc => ?_) <;> (conv => whnf))
  · have hlt : i < a.toNat % 20 := by simp at hc; omega
    refine SLoad.on 0 rfl ?_; (conv => whnf); refine ⟨_, IntWalk.i64_in _ (by omega), ?_⟩; (conv => whnf)
    refine SApp.c rfl rfl (by exact hm0) (by simp only [length_aBytes, List.length_append, List.length_cons, List.length_nil, List.length_map, List.length_range]; omega) fun tk1 σ1 hm => ?_
    (conv => whnf); refine SStore.on 0 rfl ?_; (conv => whnf); refine ⟨_, IntWalk.i64_in _ (by omega), ?_⟩; (conv => whnf)
    refine ⟨(i + 1, tk1), by omega, by repeat (first | exact trivial | refine ⟨by first | trivial | exact Weak.refl _ | exact Weak.tok _ _ _ | exact Weak.of_eq (congrArg (AV.int _) (by omega)) | exact Weak.of_eq (congrArg AV.bool (by fail)) | exact Weak.nils _ _ (.inr rfl), ?_⟩), ?_, hlt, ?_⟩
    · show BSub [(b9, tc (wtx w) (ntx n) (.slc 8 [eMsg (mtx p)] .full) (.slc 1 ((akx (i + 1)).map (.int .i64)) tk1))] _
      rw [akx_succ, List.map_append]
      exact .refl _
    · have := hm.set b9 (tc (wtx w) (ntx n) (.slc 8 [eMsg (mtx p)] .full) (.slc 1 ((akx (i + 1)).map (.int .i64)) tk1))
      rw [setBox_setBox] at this
      rw [akx_succ, List.map_append] at this ⊢
      exact this
  · have hge : i = a.toNat % 20 := by simp at hc; omega
    have hen : CallP Tryd.prog w0 24 [.agg (tc (wtx w) (ntx n) (.slc 8 [eMsg (mtx p)] .full) (.slc 1 ((akx i).map (.int .i64)) tk))] (eRows (enc1 (subx n w p i))) := fun σ =>
      CallW.weak1 [] [] (.agg (.cons (.refl _) (.cons (.refl _) (.cons (.refl _) (.cons (.refl _) (.cons (.refl _) (.cons (.refl _) (.cons (.refl _) (.cons (.tok _ _ _) (.cons (.tok _ _ _) (.cons (.refl _) .nil)))))))))) (by simp [AV.one])) (enc1_p w0 hL (subx n w p i) (subx_fits n w p i (by omega)) σ)
    have hlen := subx_len n w p i
    generalize enc1 (subx n w p i) = l at hen hlen
    have d1 : decide (((l.map eRow).length : Int) = 1 + bN n + bN w + bN p + 1 + (a.toNat : Int) % 20) = true := decide_eq_true (by rw [List.length_map, hlen, hge]; omega)
    refine SCall.p (by exact known1_any w0 hL) ?_; (conv => whnf); refine SCond.y (by exact rfl) ?_; (conv => whnf); refine SLoad.on 0 rfl ?_; (conv => whnf); refine SCond.y (by exact rfl) ?_; (conv => whnf); refine SCall.p (by exact hen) ?_; (conv => whnf); refine SCond.y (by exact rfl) ?_; (conv => whnf); refine SCond.y (by exact rfl) ?_; (conv => whnf); refine SCond.y (by exact rfl) ?_
    (conv => whnf); refine ⟨_, IntWalk.i64_in _ (by omega), ?_⟩; (conv => whnf); refine SCond.y (by exact rfl) ?_; (conv => whnf); refine SCond.y (by exact rfl) ?_; (conv => whnf); refine And.intro (by omega) ?_; (conv => whnf); refine SCond.y (by exact rfl) ?_; (conv => whnf); refine ⟨_, IntWalk.i64_in _ (by omega), ?_⟩; (conv => whnf); refine SCond.y (by exact rfl) ?_; (conv => whnf)
    refine ⟨_, IntWalk.i64_in _ (by omega), ?_⟩; (conv => whnf); refine SCond.y (by exact rfl) ?_; (conv => whnf); refine SPick.y (by exact rfl) ?_; (conv => whnf); exact .w (by rw [d1])
end Go.Proofs.YtkbmkhhcppfcnaaDoor
end
