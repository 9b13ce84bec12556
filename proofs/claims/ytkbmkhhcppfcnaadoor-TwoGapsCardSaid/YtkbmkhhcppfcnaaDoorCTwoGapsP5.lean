/- The law TwoGaps returns true for every input, and its arguments read as before: the tied card. No conditions. This is part 5 of 7 of its proof; the parts are read in order. No conditions. -/
import Derived.Test.YtkbmkhhcppfcnaaDoorCTwoGapsP4
section
set_option linter.unusedVariables false
set_option linter.unusedSimpArgs false
set_option maxRecDepth 100000
set_option maxHeartbeats 1000000
namespace Go.Proofs.YtkbmkhhcppfcnaaDoor
open Go.Al Go.RowKit
structure XAt (τ σ : St) (bx : Nat) (x : Sub) (ac qv : AV) (ra rq : Option Nat) : Prop where
  le : St.Le τ σ
  hbx : σ.box bx = some (xc x ac qv)
  bxn : τ.box bx = none
  a : RowV σ 1 (x.acks.map (AV.int .i64)) ac ra
  q : RowV σ 8 (x.queue.map eMsg) qv rq
  an : ∀ b, ra = some b → τ.box b = none ∧ b ≠ bx
  qn : ∀ b, rq = some b → τ.box b = none ∧ b ≠ bx
  aq : ∀ b, ra = some b → rq ≠ some b
theorem XAt.ra_ne {τ σ : St} {bx : Nat} {x : Sub} {ac qv : AV} {ra rq : Option Nat} (h : XAt τ σ bx x ac qv ra rq) {c : Nat} (hc : σ.box c = none) : ra ≠ some c := by
  intro e; subst e; exact RowV.has h.a hc
theorem XAt.rq_ne {τ σ : St} {bx : Nat} {x : Sub} {ac qv : AV} {ra rq : Option Nat} (h : XAt τ σ bx x ac qv ra rq) {c : Nat} (hc : σ.box c = none) : rq ≠ some c := by
  intro e; subst e; exact RowV.has h.q hc
theorem XAt.other {τ σ : St} {bx : Nat} {x : Sub} {ac qv : AV} {ra rq : Option Nat} (h : XAt τ σ bx x ac qv ra rq) {c : Nat} (hc : τ.box c = none) (h1 : c ≠ bx) (h2 : ra ≠ some c) (h3 : rq ≠ some c) (ds : List AV) : XAt τ (σ.setBox c ds) bx x ac qv ra rq :=
  ⟨le_setBox h.le hc, by rw [setBox_ne (Ne.symm h1)]; exact h.hbx, h.bxn, h.a.set h2, h.q.set h3, h.an, h.qn, h.aq⟩
theorem XAt.own {τ σ : St} {bx : Nat} {x : Sub} {ac qv : AV} {ra rq : Option Nat} (h : XAt τ σ bx x ac qv ra rq) (y : Sub) (ha : y.acks = x.acks) (hq : y.queue = x.queue) : XAt τ (σ.setBox bx (xc y ac qv)) bx y ac qv ra rq :=
  ⟨le_setBox h.le h.bxn, setBox_same, h.bxn, by rw [ha]; exact h.a.set (fun e => (h.an _ e).2 rfl), by rw [hq]; exact h.q.set (fun e => (h.qn _ e).2 rfl), h.an, h.qn, h.aq⟩
theorem XAt.grow {τ σ : St} {bx : Nat} {x : Sub} {ac qv : AV} {ra rq : Option Nat} (h : XAt τ σ bx x ac qv ra rq) {c : Nat} (hc : σ.box c = none) (ds : List AV) : XAt (τ.setBox c ds) (σ.setBox c ds) bx x ac qv ra rq := by
  have hbx : bx ≠ c := by rintro rfl; rw [h.hbx] at hc; cases hc
  have hn : ∀ b, b ≠ c → τ.box b = none → (τ.setBox c ds).box b = none := fun b hb e => by rw [setBox_ne hb]; exact e
  refine ⟨⟨fun i cs e => ?_, fun p e => h.le.tok p e⟩, by rw [setBox_ne hbx]; exact h.hbx, hn _ hbx h.bxn, h.a.set (h.ra_ne hc), h.q.set (h.rq_ne hc), fun b e => ⟨hn b (fun e2 => h.ra_ne hc (by rw [e, e2])) (h.an b e).1, (h.an b e).2⟩, fun b e => ⟨hn b (fun e2 => h.rq_ne hc (by rw [e, e2])) (h.qn b e).1, (h.qn b e).2⟩, h.aq⟩
  by_cases hi : i = c
  · subst hi; rw [setBox_same] at e ⊢; exact e
  · rw [setBox_ne hi] at e ⊢; exact h.le.box i cs e
theorem XAt.less {τ τ' σ : St} {bx : Nat} {x : Sub} {ac qv : AV} {ra rq : Option Nat} (h : XAt τ σ bx x ac qv ra rq) (hl : St.Le τ' τ) : XAt τ' σ bx x ac qv ra rq :=
  ⟨hl.trans h.le, h.hbx, le_none hl h.bxn, h.a, h.q, fun b e => ⟨le_none hl (h.an b e).1, (h.an b e).2⟩, fun b e => ⟨le_none hl (h.qn b e).1, (h.qn b e).2⟩, h.aq⟩
theorem ints_sz (l : List Int) : ∀ x ∈ l.map (AV.int .i64), x.cells.length = 1 := fun x hx => by
  obtain ⟨n, _, rfl⟩ := List.mem_map.1 hx; rfl
theorem msgs_sz (l : List Msg) : ∀ x ∈ l.map eMsg, x.cells.length = 8 := fun x hx => by
  obtain ⟨n, _, rfl⟩ := List.mem_map.1 hx; rfl
theorem g2_stop (v : List UInt8) (n : Nat) (s : Nat × Bool) (acc : List Int) (h : s.2 = true) : gp2 v n s acc = (acc, s) := by
  cases n with
  | zero => rfl
  | succ n => rw [gp2, if_pos h]
theorem n2_gt (v : List UInt8) (s : Nat × Bool) (h : (n2 v s).2.2 = false) : s.1 < (n2 v s).2.1 := by
  unfold n2 at h ⊢
  split at h
  · cases h
  · rename_i hc
    rw [if_neg hc]
    exact getNum_gt v s.1 (by simp at hc; exact hc.2)
theorem XAt.appA {τ st σ' : St} {bx br : Nat} {x : Sub} {ac qv : AV} {ra rq : Option Nat} {rs : List AV} (h : XAt τ st bx x ac qv ra rq) (hrn : τ.box br = none) (hbr : br ≠ bx) (h1 : ra ≠ some br) (h2 : rq ≠ some br) {n : Int} {b' cap' : Nat}
    (hR : RowV σ' 1 (x.acks.map (AV.int .i64) ++ [.int .i64 n]) (.msl b' 0 ((x.acks.map (AV.int .i64)).length + 1) cap') (some b')) (hf : ra = some b' ∨ (st.setBox br rs).box b' = none) (hk : ∀ i cs, ra ≠ some i → (st.setBox br rs).box i = some cs → σ'.box i = some cs) (ht : σ'.tok = (st.setBox br rs).tok) :
    XAt τ (σ'.setBox bx (xc { x with acks := x.acks ++ [n] } (.msl b' 0 ((x.acks.map (AV.int .i64)).length + 1) cap') qv)) bx { x with acks := x.acks ++ [n] } (.msl b' 0 ((x.acks.map (AV.int .i64)).length + 1) cap') qv (some b') rq ∧ some b' ≠ some br := by
  have hb : τ.box b' = none ∧ b' ≠ bx ∧ rq ≠ some b' ∧ b' ≠ br := by
    rcases hf with hf | hf
    · exact ⟨(h.an _ hf).1, (h.an _ hf).2, h.aq _ hf, fun e => h1 (by rw [hf, e])⟩
    · have hne : b' ≠ br := by rintro rfl; rw [setBox_same] at hf; cases hf
      rw [setBox_ne hne] at hf
      exact ⟨le_none h.le hf, fun e => (by subst e; rw [h.hbx] at hf; cases hf), h.rq_ne hf, hne⟩
  obtain ⟨hb1, hb2, hb3, hb4⟩ := hb
  refine ⟨⟨le_setBox ⟨fun i cs e => hk i cs (fun e2 => ?_) ?_, fun p e => by rw [ht]; exact h.le.tok p e⟩ h.bxn, setBox_same, h.bxn, ?_, ?_, fun b e => ?_, h.qn, fun b e => ?_⟩, fun e => hb4 (Option.some.inj e)⟩
  · have := (h.an _ e2).1
    rw [e] at this; cases this
  · rw [setBox_ne (fun e2 => by subst e2; rw [hrn] at e; cases e)]; exact h.le.box i cs e
  · have e1 : ({ x with acks := x.acks ++ [n] } : Sub).acks.map (AV.int .i64) = x.acks.map (AV.int .i64) ++ [.int .i64 n] := by simp
    rw [e1]
    exact hR.set (fun e => hb2 (Option.some.inj e))
  · refine ((h.q.set (c := br) (ds := rs) h2).keep fun b cs e hbb => hk b cs (fun e2 => h.aq _ e2 e) hbb).set fun e => (h.qn _ e).2 rfl
  · cases e; exact ⟨hb1, hb2⟩
  · cases e; exact hb3
theorem XAt.appQ {τ st σ' : St} {bx : Nat} {x : Sub} {ac qv : AV} {ra rq : Option Nat} (h : XAt τ st bx x ac qv ra rq) {m : Msg} {b' n' cap' : Nat}
    (hR : RowV σ' 8 (x.queue.map eMsg ++ [eMsg m]) (.msl b' 0 n' cap') (some b')) (hf : rq = some b' ∨ st.box b' = none) (hk : ∀ i cs, rq ≠ some i → st.box i = some cs → σ'.box i = some cs) (ht : σ'.tok = st.tok) :
    XAt τ (σ'.setBox bx (xc { x with queue := x.queue ++ [m] } ac (.msl b' 0 n' cap'))) bx { x with queue := x.queue ++ [m] } ac (.msl b' 0 n' cap') ra (some b') := by
  have hb : τ.box b' = none ∧ b' ≠ bx ∧ ra ≠ some b' := by
    rcases hf with hf | hf
    · exact ⟨(h.qn _ hf).1, (h.qn _ hf).2, fun e => h.aq _ e hf⟩
    · exact ⟨le_none h.le hf, fun e => (by subst e; rw [h.hbx] at hf; cases hf), h.ra_ne hf⟩
  obtain ⟨hb1, hb2, hb3⟩ := hb
  refine ⟨le_setBox ⟨fun i cs e => hk i cs (fun e2 => ?_) (h.le.box i cs e), fun p e => by rw [ht]; exact h.le.tok p e⟩ h.bxn, setBox_same, h.bxn, ?_, ?_, h.an, fun b e => ?_, fun b e e2 => ?_⟩
  · have := (h.qn _ e2).1
    rw [e] at this; cases this
  · exact (h.a.keep fun b cs e hbb => hk b cs (fun e2 => h.aq _ e e2) hbb).set fun e => (h.an _ e).2 rfl
  · have e1 : ({ x with queue := x.queue ++ [m] } : Sub).queue.map eMsg = x.queue.map eMsg ++ [eMsg m] := by simp
    rw [e1]
    exact hR.set (fun e => hb2 (Option.some.inj e))
  · cases e; exact ⟨hb1, hb2⟩
  · cases e2; exact hb3 e
theorem tA_any (w0 : World) (v : List UInt8) (x : Sub) (ac qv : AV) (ra rq : Option Nat) (τ : St) (bx br bm o : Nat) (σ : St) (hv : v.length ≤ 1000000) (hn : x.acks.length ≤ 1000000) (hx : XAt τ σ bx x ac qv ra rq) (hr : σ.box br = some (rd2 v (0, false))) (hrn : τ.box br = none) (hbr : br ≠ bx) (h1 : ra ≠ some br) (h2 : rq ≠ some br) :
    CallW Tryd.prog w0 112 [.ptr bx 0, .ptr bm o, .ptr br 0] σ (fun r s => r = .tup [] ∧ ∃ ac' ra', XAt τ s bx { x with acks := (gp2 v (n2 v (0, false)).1 (n2 v (0, false)).2 x.acks).1 } ac' qv ra' rq) := by
  refine CallW.x (B := [(br, rd2 v (0, false)), (bx, xc x ac qv)]) Ty.tok Ty.mixed Tryd.func112 rfl Tryd.ntmps112 rfl (by simp) (by decide +kernel) ⟨by simp [hr, hx.hbx], by simp [hbr]⟩ ?_
  have f1 := n2_far v (0, false)
  have f2 := n2_max v (0, false)
  conv => whnf
  repeat' (((first | refine SIf.y Ty.mixed (by first | exact rfl | assumption | fail) ?_ | refine SIf.n Ty.mixed (by first | exact rfl | assumption | fail) ?_ | refine SCond.y (by first | exact rfl | assumption | fail) ?_ | refine SCond.n (by first | exact rfl | assumption | fail) ?_ | refine SPick.y (by first | exact rfl | assumption | fail) ?_ | refine SPick.n (by first | exact rfl | assumption | fail) ?_ | refine SPick.b ?_ | refine SPick.i ?_ | refine SCall.b 0 (fun hb => by exact rnum2_s w0 v _ br _ hv (by first | exact Nat.zero_le _ | omega) hb) rfl rfl ?_ | refine SCall.b 1 (fun hb => by exact rnum2_s w0 v _ br _ hv (by first | exact Nat.zero_le _ | omega) hb) rfl rfl ?_ | refine SCall.b 2 (fun hb => by exact rnum2_s w0 v _ br _ hv (by first | exact Nat.zero_le _ | omega) hb) rfl rfl ?_ | refine SCall.b 3 (fun hb => by exact rnum2_s w0 v _ br _ hv (by first | exact Nat.zero_le _ | omega) hb) rfl rfl ?_ | refine SLoad.on 0 rfl ?_ | refine SLoad.on 1 rfl ?_ | refine SLoad.on 2 rfl ?_ | refine SLoad.on 3 rfl ?_ | refine SLoad.on 4 rfl ?_ | refine SLoad.on 5 rfl ?_ | refine SStore.on 0 rfl ?_ | refine SStore.on 1 rfl ?_ | refine SStore.on 2 rfl ?_ | refine SStore.on 3 rfl ?_ | refine SStore.on 4 rfl ?_ | refine SStore.on 5 rfl ?_ | refine SBox.f ?_ | refine SCall.p (by fail) ?_ | fail | refine SApp.c rfl rfl (by first | assumption | exact Moves.more (by assumption) (by assumption) | fail) (by first | (simp only [length_aBytes, List.length_append, List.length_cons, List.length_nil, List.length_map, List.length_range]; omega) | omega | fail) fun tk1 σ1 hm => ?_ | refine SReg.t 0 [] (by decide +kernel) ?_ | refine And.intro (by first | omega | (simp only [List.length_cons, List.length_append, List.length_nil, List.length_map, length_aBytes, List.length_replicate, List.length_range]; omega) | fail) ?_ | refine ⟨_, ⟨by first | omega | (simp only [List.length_cons, List.length_append, List.length_nil, List.length_map, length_aBytes, List.length_replicate, List.length_range]; omega) | fail, by first | assumption | exact get_map (by assumption) | exact get_bytes (by assumption) | fail⟩, ?_⟩ | refine ⟨_, toBytes_aBytes _, ?_⟩ | refine ⟨_, by repeat (first | exact toB_nil | apply toB_cons | apply toB_consC _ (by first | omega | (simp only [List.length_cons, List.length_append, List.length_nil, List.length_map, length_aBytes, List.length_replicate, List.length_range]; omega) | fail)), ?_⟩ | refine ⟨_, IntWalk.i64_in _ (by first | omega | (simp only [List.length_cons, List.length_append, List.length_nil, List.length_map, length_aBytes, List.length_replicate, List.length_range]; omega) | fail), ?_⟩ | refine ⟨_, wrap_u8 _, ?_⟩ | refine ⟨_, rfl, ?_⟩ | refine ⟨true, fun b1 hb1 => ?_⟩ | intro b1 hb1 | fail); conv => whnf))
  refine SLoop.by2 Ty.mixed (fun (a : Nat × (Nat × Bool) × List Int × AV × Option Nat) => a.1) (fun (n, s, acc, av, r) => [(0, .ptr bx 0), (2, .ptr br 0), (6, .int .i64 n)]) (fun (n, s, acc, av, r) => [(br, rd2 v s), (bx, xc { x with acks := acc } av qv)])
    (fun (n, s, acc, av, r) st => n ≤ 9007199254740992 ∧ s.1 ≤ v.length ∧ (s.2 = false → acc.length ≤ x.acks.length + s.1) ∧ acc.length ≤ x.acks.length + v.length + 1 ∧ gp2 v (n2 v (0, false)).1 (n2 v (0, false)).2 x.acks = gp2 v n s acc ∧ XAt τ st bx { x with acks := acc } av qv r rq ∧ r ≠ some br)
    ((n2 v (0, false)).1, (n2 v (0, false)).2, x.acks, ac, ra) ⟨by repeat (first | exact trivial | refine ⟨by first | trivial | exact Weak.refl _ | exact Weak.tok _ _ _ | exact Weak.of_eq (congrArg (AV.int _) (by omega)) | exact Weak.of_eq (congrArg AV.bool (by fail)) | exact Weak.nils _ _ (.inr rfl), ?_⟩), .refl _, f2, by omega, fun _ => by omega, by omega, rfl, hx.other hrn hbr h1 h2 _, h1⟩ ?_
  rintro ⟨n, s, acc, av, r⟩ st ⟨hn1, hs1, hac0, hac, hg, hxa, hrr⟩ hK
  obtain ⟨a, bad⟩ := s
  refine ⟨_, hK, ?_⟩
  by_cases hn0 : n = 0
  · subst hn0
    have d0 : decide ((0 : Int) < ((0 : Nat) : Int)) = false := rfl
    conv => whnf
    repeat' (((first | refine SIf.y Ty.mixed (by first | exact rfl | assumption | fail) ?_ | refine SIf.n Ty.mixed (by first | exact rfl | assumption | fail) ?_ | refine SCond.y (by first | exact rfl | assumption | fail) ?_ | refine SCond.n (by first | exact rfl | assumption | fail) ?_ | refine SPick.y (by first | exact rfl | assumption | fail) ?_ | refine SPick.n (by first | exact rfl | assumption | fail) ?_ | refine SPick.b ?_ | refine SPick.i ?_ | refine SCall.b 0 (fun hb => by exact rnum2_s w0 v _ br _ hv (by first | exact Nat.zero_le _ | omega) hb) rfl rfl ?_ | refine SCall.b 1 (fun hb => by exact rnum2_s w0 v _ br _ hv (by first | exact Nat.zero_le _ | omega) hb) rfl rfl ?_ | refine SCall.b 2 (fun hb => by exact rnum2_s w0 v _ br _ hv (by first | exact Nat.zero_le _ | omega) hb) rfl rfl ?_ | refine SCall.b 3 (fun hb => by exact rnum2_s w0 v _ br _ hv (by first | exact Nat.zero_le _ | omega) hb) rfl rfl ?_ | refine SLoad.on 0 rfl ?_ | refine SLoad.on 1 rfl ?_ | refine SLoad.on 2 rfl ?_ | refine SLoad.on 3 rfl ?_ | refine SLoad.on 4 rfl ?_ | refine SLoad.on 5 rfl ?_ | refine SStore.on 0 rfl ?_ | refine SStore.on 1 rfl ?_ | refine SStore.on 2 rfl ?_ | refine SStore.on 3 rfl ?_ | refine SStore.on 4 rfl ?_ | refine SStore.on 5 rfl ?_ | refine SBox.f ?_ | refine SCall.p (by fail) ?_ | fail | refine SApp.c rfl rfl (by first | assumption | exact Moves.more (by assumption) (by assumption) | fail) (by first | (simp only [length_aBytes, List.length_append, List.length_cons, List.length_nil, List.length_map, List.length_range]; omega) | omega | fail) fun tk1 σ1 hm => ?_ | refine SReg.t 0 [] (by decide +kernel) ?_ | refine And.intro (by first | omega | (simp only [List.length_cons, List.length_append, List.length_nil, List.length_map, length_aBytes, List.length_replicate, List.length_range]; omega) | fail) ?_ | refine ⟨_, ⟨by first | omega | (simp only [List.length_cons, List.length_append, List.length_nil, List.length_map, length_aBytes, List.length_replicate, List.length_range]; omega) | fail, by first | assumption | exact get_map (by assumption) | exact get_bytes (by assumption) | fail⟩, ?_⟩ | refine ⟨_, toBytes_aBytes _, ?_⟩ | refine ⟨_, by repeat (first | exact toB_nil | apply toB_cons | apply toB_consC _ (by first | omega | (simp only [List.length_cons, List.length_append, List.length_nil, List.length_map, length_aBytes, List.length_replicate, List.length_range]; omega) | fail)), ?_⟩ | refine ⟨_, IntWalk.i64_in _ (by first | omega | (simp only [List.length_cons, List.length_append, List.length_nil, List.length_map, length_aBytes, List.length_replicate, List.length_range]; omega) | fail), ?_⟩ | refine ⟨_, wrap_u8 _, ?_⟩ | refine ⟨_, rfl, ?_⟩ | refine ⟨true, fun b1 hb1 => ?_⟩ | intro b1 hb1 | fail); conv => whnf))
    refine .w ⟨rfl, av, r, ?_⟩
    rw [hg, gp2]
    exact hxa
  · obtain ⟨n, rfl⟩ : ∃ k, n = k + 1 := ⟨n - 1, by omega⟩
    have d0 : decide ((0 : Int) < ((n + 1 : Nat) : Int)) = true := decide_eq_true (by omega)
    cases bad with
    | true =>
      conv => whnf
      repeat' (((first | refine SIf.y Ty.mixed (by first | exact rfl | assumption | fail) ?_ | refine SIf.n Ty.mixed (by first | exact rfl | assumption | fail) ?_ | refine SCond.y (by first | exact rfl | assumption | fail) ?_ | refine SCond.n (by first | exact rfl | assumption | fail) ?_ | refine SPick.y (by first | exact rfl | assumption | fail) ?_ | refine SPick.n (by first | exact rfl | assumption | fail) ?_ | refine SPick.b ?_ | refine SPick.i ?_ | refine SCall.b 0 (fun hb => by exact rnum2_s w0 v _ br _ hv (by first | exact Nat.zero_le _ | omega) hb) rfl rfl ?_ | refine SCall.b 1 (fun hb => by exact rnum2_s w0 v _ br _ hv (by first | exact Nat.zero_le _ | omega) hb) rfl rfl ?_ | refine SCall.b 2 (fun hb => by exact rnum2_s w0 v _ br _ hv (by first | exact Nat.zero_le _ | omega) hb) rfl rfl ?_ | refine SCall.b 3 (fun hb => by exact rnum2_s w0 v _ br _ hv (by first | exact Nat.zero_le _ | omega) hb) rfl rfl ?_ | refine SLoad.on 0 rfl ?_ | refine SLoad.on 1 rfl ?_ | refine SLoad.on 2 rfl ?_ | refine SLoad.on 3 rfl ?_ | refine SLoad.on 4 rfl ?_ | refine SLoad.on 5 rfl ?_ | refine SStore.on 0 rfl ?_ | refine SStore.on 1 rfl ?_ | refine SStore.on 2 rfl ?_ | refine SStore.on 3 rfl ?_ | refine SStore.on 4 rfl ?_ | refine SStore.on 5 rfl ?_ | refine SBox.f ?_ | refine SCall.p (by fail) ?_ | fail | refine SApp.c rfl rfl (by first | assumption | exact Moves.more (by assumption) (by assumption) | fail) (by first | (simp only [length_aBytes, List.length_append, List.length_cons, List.length_nil, List.length_map, List.length_range]; omega) | omega | fail) fun tk1 σ1 hm => ?_ | refine SReg.t 0 [] (by decide +kernel) ?_ | refine And.intro (by first | omega | (simp only [List.length_cons, List.length_append, List.length_nil, List.length_map, length_aBytes, List.length_replicate, List.length_range]; omega) | fail) ?_ | refine ⟨_, ⟨by first | omega | (simp only [List.length_cons, List.length_append, List.length_nil, List.length_map, length_aBytes, List.length_replicate, List.length_range]; omega) | fail, by first | assumption | exact get_map (by assumption) | exact get_bytes (by assumption) | fail⟩, ?_⟩ | refine ⟨_, toBytes_aBytes _, ?_⟩ | refine ⟨_, by repeat (first | exact toB_nil | apply toB_cons | apply toB_consC _ (by first | omega | (simp only [List.length_cons, List.length_append, List.length_nil, List.length_map, length_aBytes, List.length_replicate, List.length_range]; omega) | fail)), ?_⟩ | refine ⟨_, IntWalk.i64_in _ (by first | omega | (simp only [List.length_cons, List.length_append, List.length_nil, List.length_map, length_aBytes, List.length_replicate, List.length_range]; omega) | fail), ?_⟩ | refine ⟨_, wrap_u8 _, ?_⟩ | refine ⟨_, rfl, ?_⟩ | refine ⟨true, fun b1 hb1 => ?_⟩ | intro b1 hb1 | fail); conv => whnf))
      refine .w ⟨rfl, av, r, ?_⟩
      rw [hg, g2_stop v _ _ _ rfl]
      exact hxa
    | false =>
      have f3 := n2_far v (a, false)
      simp only at hs1 hac0
      have hac1 := hac0 trivial
      have hg' : gp2 v (n + 1) (a, false) acc = gp2 v n (n2 v (a, false)).2 (acc ++ [((n2 v (a, false)).1 : Int)]) := by rw [gp2, if_neg (by simp)]
      have f4 := n2_gt v (a, false)
      have hRs := RowV.set (c := br) (ds := rd2 v (n2 v (a, false)).2) hxa.a hrr
      have fin : ∀ (b' cap' : Nat) (σ' : St), RowV σ' 1 (acc.map (AV.int .i64) ++ [.int .i64 ((n2 v (a, false)).1 : Nat)]) (.msl b' 0 ((acc.map (AV.int .i64)).length + 1) cap') (some b') → (r = some b' ∨ (st.setBox br (rd2 v (n2 v (a, false)).2)).box b' = none) → (∀ i cs, r ≠ some i → (st.setBox br (rd2 v (n2 v (a, false)).2)).box i = some cs → σ'.box i = some cs) → σ'.tok = (st.setBox br (rd2 v (n2 v (a, false)).2)).tok →
          n ≤ 9007199254740992 ∧ (n2 v (a, false)).2.1 ≤ v.length ∧ ((n2 v (a, false)).2.2 = false → (acc ++ [((n2 v (a, false)).1 : Int)]).length ≤ x.acks.length + (n2 v (a, false)).2.1) ∧ (acc ++ [((n2 v (a, false)).1 : Int)]).length ≤ x.acks.length + v.length + 1 ∧ gp2 v (n2 v (0, false)).1 (n2 v (0, false)).2 x.acks = gp2 v n (n2 v (a, false)).2 (acc ++ [((n2 v (a, false)).1 : Int)]) ∧
          XAt τ (σ'.setBox bx (xc { x with acks := acc ++ [((n2 v (a, false)).1 : Int)] } (.msl b' 0 ((acc.map (AV.int .i64)).length + 1) cap') qv)) bx { x with acks := acc ++ [((n2 v (a, false)).1 : Int)] } (.msl b' 0 ((acc.map (AV.int .i64)).length + 1) cap') qv (some b') rq ∧ some b' ≠ some br := fun b' cap' σ' q1 q2 q3 q4 => by
        obtain ⟨r1, r2⟩ := XAt.appA hxa hrn hbr hrr h2 q1 q2 q3 q4
        simp only [List.length_append, List.length_singleton]
        exact ⟨by omega, by omega, fun e => by have := f4 e; simp only at this; omega, by omega, hg.trans hg', r1, r2⟩
      cases hxa.a with
      | nil h0 =>
        conv => whnf
        repeat' (((first | refine SIf.y Ty.mixed (by first | exact rfl | assumption | fail) ?_ | refine SIf.n Ty.mixed (by first | exact rfl | assumption | fail) ?_ | refine SCond.y (by first | exact rfl | assumption | fail) ?_ | refine SCond.n (by first | exact rfl | assumption | fail) ?_ | refine SPick.y (by first | exact rfl | assumption | fail) ?_ | refine SPick.n (by first | exact rfl | assumption | fail) ?_ | refine SPick.b ?_ | refine SPick.i ?_ | refine SLoadH.on 0 rfl rfl ?_ | refine SLoadH.on 1 rfl rfl ?_ | refine SLoadH.on 2 rfl rfl ?_ | refine SLoadH.on 3 rfl rfl ?_ | refine SCall.bH 0 (fun hb => by exact rnum2_s w0 v _ br _ hv (by first | exact Nat.zero_le _ | omega) hb) rfl rfl (by (intro p hp; cases hp; first | assumption | exact Ne.symm (by assumption))) ?_ | refine SCall.bH 1 (fun hb => by exact rnum2_s w0 v _ br _ hv (by first | exact Nat.zero_le _ | omega) hb) rfl rfl (by (intro p hp; cases hp; first | assumption | exact Ne.symm (by assumption))) ?_ | refine SLoad.on 0 rfl ?_ | refine SLoad.on 1 rfl ?_ | refine SLoad.on 2 rfl ?_ | refine SLoad.on 3 rfl ?_ | refine SLoad.on 4 rfl ?_ | refine SLoad.on 5 rfl ?_ | refine SStore.on 0 rfl ?_ | refine SStore.on 1 rfl ?_ | refine SStore.on 2 rfl ?_ | refine SStore.on 3 rfl ?_ | refine SStore.on 4 rfl ?_ | refine SStore.on 5 rfl ?_ | refine SBox.f ?_ | refine SCall.p (by fail) ?_ | fail | refine SApp.c rfl rfl (by first | assumption | exact Moves.more (by assumption) (by assumption) | fail) (by first | (simp only [length_aBytes, List.length_append, List.length_cons, List.length_nil, List.length_map, List.length_range]; omega) | omega | fail) fun tk1 σ1 hm => ?_ | refine SReg.h 1 rfl [0, 1, 2, 3, 5, 4, 6, 7, 8, 9, 10, 11] [0, 0, 0, 0, 3, 0, 4, 0, 2, 0, 0, 2] (by decide +kernel) ?_; conv => whnf | refine And.intro (by first | omega | (simp only [List.length_cons, List.length_append, List.length_nil, List.length_map, length_aBytes, List.length_replicate, List.length_range]; omega) | fail) ?_ | refine ⟨_, ⟨by first | omega | (simp only [List.length_cons, List.length_append, List.length_nil, List.length_map, length_aBytes, List.length_replicate, List.length_range]; omega) | fail, by first | assumption | exact get_map (by assumption) | exact get_bytes (by assumption) | fail⟩, ?_⟩ | refine ⟨_, toBytes_aBytes _, ?_⟩ | refine ⟨_, by repeat (first | exact toB_nil | apply toB_cons | apply toB_consC _ (by first | omega | (simp only [List.length_cons, List.length_append, List.length_nil, List.length_map, length_aBytes, List.length_replicate, List.length_range]; omega) | fail)), ?_⟩ | refine ⟨_, IntWalk.i64_in _ (by first | omega | (simp only [List.length_cons, List.length_append, List.length_nil, List.length_map, length_aBytes, List.length_replicate, List.length_range]; omega) | fail), ?_⟩ | refine ⟨_, wrap_u8 _, ?_⟩ | refine ⟨_, rfl, ?_⟩ | refine ⟨true, fun b1 hb1 => ?_⟩ | intro b1 hb1 | fail); conv => whnf))
        refine SApp.row rfl hRs rfl (ints_sz _) rfl (by simp only [List.length_map]; omega) (by simp) fun b' cap' σ' q1 q2 q3 q4 => ?_
        conv => whnf
        repeat' (((first | refine SIf.y Ty.mixed (by first | exact rfl | assumption | fail) ?_ | refine SIf.n Ty.mixed (by first | exact rfl | assumption | fail) ?_ | refine SCond.y (by first | exact rfl | assumption | fail) ?_ | refine SCond.n (by first | exact rfl | assumption | fail) ?_ | refine SPick.y (by first | exact rfl | assumption | fail) ?_ | refine SPick.n (by first | exact rfl | assumption | fail) ?_ | refine SPick.b ?_ | refine SPick.i ?_ | refine SLoadH.on 0 rfl rfl ?_ | refine SLoadH.on 1 rfl rfl ?_ | refine SLoadH.on 2 rfl rfl ?_ | refine SLoadH.on 3 rfl rfl ?_ | refine SCall.bH 0 (fun hb => by exact rnum2_s w0 v _ br _ hv (by first | exact Nat.zero_le _ | omega) hb) rfl rfl (by (intro p hp; cases hp; first | assumption | exact Ne.symm (by assumption))) ?_ | refine SCall.bH 1 (fun hb => by exact rnum2_s w0 v _ br _ hv (by first | exact Nat.zero_le _ | omega) hb) rfl rfl (by (intro p hp; cases hp; first | assumption | exact Ne.symm (by assumption))) ?_ | refine SLoad.on 0 rfl ?_ | refine SLoad.on 1 rfl ?_ | refine SLoad.on 2 rfl ?_ | refine SLoad.on 3 rfl ?_ | refine SLoad.on 4 rfl ?_ | refine SLoad.on 5 rfl ?_ | refine SStore.on 0 rfl ?_ | refine SStore.on 1 rfl ?_ | refine SStore.on 2 rfl ?_ | refine SStore.on 3 rfl ?_ | refine SStore.on 4 rfl ?_ | refine SStore.on 5 rfl ?_ | refine SBox.f ?_ | refine SCall.p (by fail) ?_ | fail | refine SApp.c rfl rfl (by first | assumption | exact Moves.more (by assumption) (by assumption) | fail) (by first | (simp only [length_aBytes, List.length_append, List.length_cons, List.length_nil, List.length_map, List.length_range]; omega) | omega | fail) fun tk1 σ1 hm => ?_ | refine SReg.h 1 rfl [0, 1, 2, 3, 5, 4, 6, 7, 8, 9, 10, 11] [0, 0, 0, 0, 3, 0, 4, 0, 2, 0, 0, 2] (by decide +kernel) ?_; conv => whnf | refine And.intro (by first | omega | (simp only [List.length_cons, List.length_append, List.length_nil, List.length_map, length_aBytes, List.length_replicate, List.length_range]; omega) | fail) ?_ | refine ⟨_, ⟨by first | omega | (simp only [List.length_cons, List.length_append, List.length_nil, List.length_map, length_aBytes, List.length_replicate, List.length_range]; omega) | fail, by first | assumption | exact get_map (by assumption) | exact get_bytes (by assumption) | fail⟩, ?_⟩ | refine ⟨_, toBytes_aBytes _, ?_⟩ | refine ⟨_, by repeat (first | exact toB_nil | apply toB_cons | apply toB_consC _ (by first | omega | (simp only [List.length_cons, List.length_append, List.length_nil, List.length_map, length_aBytes, List.length_replicate, List.length_range]; omega) | fail)), ?_⟩ | refine ⟨_, IntWalk.i64_in _ (by first | omega | (simp only [List.length_cons, List.length_append, List.length_nil, List.length_map, length_aBytes, List.length_replicate, List.length_range]; omega) | fail), ?_⟩ | refine ⟨_, wrap_u8 _, ?_⟩ | refine ⟨_, rfl, ?_⟩ | refine ⟨true, fun b1 hb1 => ?_⟩ | intro b1 hb1 | fail); conv => whnf))
        exact ⟨(n, (n2 v (a, false)).2, acc ++ [((n2 v (a, false)).1 : Int)], _, _), Nat.lt_succ_self n, by repeat (first | exact trivial | refine ⟨by first | trivial | exact Weak.refl _ | exact Weak.tok _ _ _ | exact Weak.of_eq (congrArg (AV.int _) (by omega)) | exact Weak.of_eq (congrArg AV.bool (by fail)) | exact Weak.nils _ _ (.inr rfl), ?_⟩), .refl _, fin b' cap' σ' q1 q2 q3 q4⟩
      | own b cap junk hb hc hl =>
        conv => whnf
        repeat' (((first | refine SIf.y Ty.mixed (by first | exact rfl | assumption | fail) ?_ | refine SIf.n Ty.mixed (by first | exact rfl | assumption | fail) ?_ | refine SCond.y (by first | exact rfl | assumption | fail) ?_ | refine SCond.n (by first | exact rfl | assumption | fail) ?_ | refine SPick.y (by first | exact rfl | assumption | fail) ?_ | refine SPick.n (by first | exact rfl | assumption | fail) ?_ | refine SPick.b ?_ | refine SPick.i ?_ | refine SLoadH.on 0 rfl rfl ?_ | refine SLoadH.on 1 rfl rfl ?_ | refine SLoadH.on 2 rfl rfl ?_ | refine SLoadH.on 3 rfl rfl ?_ | refine SCall.bH 0 (fun hb => by exact rnum2_s w0 v _ br _ hv (by first | exact Nat.zero_le _ | omega) hb) rfl rfl (by (intro p hp; cases hp; first | assumption | exact Ne.symm (by assumption))) ?_ | refine SCall.bH 1 (fun hb => by exact rnum2_s w0 v _ br _ hv (by first | exact Nat.zero_le _ | omega) hb) rfl rfl (by (intro p hp; cases hp; first | assumption | exact Ne.symm (by assumption))) ?_ | refine SLoad.on 0 rfl ?_ | refine SLoad.on 1 rfl ?_ | refine SLoad.on 2 rfl ?_ | refine SLoad.on 3 rfl ?_ | refine SLoad.on 4 rfl ?_ | refine SLoad.on 5 rfl ?_ | refine SStore.on 0 rfl ?_ | refine SStore.on 1 rfl ?_ | refine SStore.on 2 rfl ?_ | refine SStore.on 3 rfl ?_ | refine SStore.on 4 rfl ?_ | refine SStore.on 5 rfl ?_ | refine SBox.f ?_ | refine SCall.p (by fail) ?_ | fail | refine SApp.c rfl rfl (by first | assumption | exact Moves.more (by assumption) (by assumption) | fail) (by first | (simp only [length_aBytes, List.length_append, List.length_cons, List.length_nil, List.length_map, List.length_range]; omega) | omega | fail) fun tk1 σ1 hm => ?_ | refine SReg.h 1 rfl [0, 1, 2, 3, 5, 4, 6, 7, 8, 9, 10, 11] [0, 0, 0, 0, 3, 0, 4, 0, 2, 0, 0, 2] (by decide +kernel) ?_; conv => whnf | refine And.intro (by first | omega | (simp only [List.length_cons, List.length_append, List.length_nil, List.length_map, length_aBytes, List.length_replicate, List.length_range]; omega) | fail) ?_ | refine ⟨_, ⟨by first | omega | (simp only [List.length_cons, List.length_append, List.length_nil, List.length_map, length_aBytes, List.length_replicate, List.length_range]; omega) | fail, by first | assumption | exact get_map (by assumption) | exact get_bytes (by assumption) | fail⟩, ?_⟩ | refine ⟨_, toBytes_aBytes _, ?_⟩ | refine ⟨_, by repeat (first | exact toB_nil | apply toB_cons | apply toB_consC _ (by first | omega | (simp only [List.length_cons, List.length_append, List.length_nil, List.length_map, length_aBytes, List.length_replicate, List.length_range]; omega) | fail)), ?_⟩ | refine ⟨_, IntWalk.i64_in _ (by first | omega | (simp only [List.length_cons, List.length_append, List.length_nil, List.length_map, length_aBytes, List.length_replicate, List.length_range]; omega) | fail), ?_⟩ | refine ⟨_, wrap_u8 _, ?_⟩ | refine ⟨_, rfl, ?_⟩ | refine ⟨true, fun b1 hb1 => ?_⟩ | intro b1 hb1 | fail); conv => whnf))
        refine SApp.row rfl hRs rfl (ints_sz _) rfl (by simp only [List.length_map]; omega) (by simp only [List.mem_cons, List.not_mem_nil, or_false, forall_eq_or_imp, forall_eq]; exact ⟨hrr, fun e => (hxa.an _ e).2 rfl⟩) fun b' cap' σ' q1 q2 q3 q4 => ?_
        conv => whnf
        repeat' (((first | refine SIf.y Ty.mixed (by first | exact rfl | assumption | fail) ?_ | refine SIf.n Ty.mixed (by first | exact rfl | assumption | fail) ?_ | refine SCond.y (by first | exact rfl | assumption | fail) ?_ | refine SCond.n (by first | exact rfl | assumption | fail) ?_ | refine SPick.y (by first | exact rfl | assumption | fail) ?_ | refine SPick.n (by first | exact rfl | assumption | fail) ?_ | refine SPick.b ?_ | refine SPick.i ?_ | refine SLoadH.on 0 rfl rfl ?_ | refine SLoadH.on 1 rfl rfl ?_ | refine SLoadH.on 2 rfl rfl ?_ | refine SLoadH.on 3 rfl rfl ?_ | refine SCall.bH 0 (fun hb => by exact rnum2_s w0 v _ br _ hv (by first | exact Nat.zero_le _ | omega) hb) rfl rfl (by (intro p hp; cases hp; first | assumption | exact Ne.symm (by assumption))) ?_ | refine SCall.bH 1 (fun hb => by exact rnum2_s w0 v _ br _ hv (by first | exact Nat.zero_le _ | omega) hb) rfl rfl (by (intro p hp; cases hp; first | assumption | exact Ne.symm (by assumption))) ?_ | refine SLoad.on 0 rfl ?_ | refine SLoad.on 1 rfl ?_ | refine SLoad.on 2 rfl ?_ | refine SLoad.on 3 rfl ?_ | refine SLoad.on 4 rfl ?_ | refine SLoad.on 5 rfl ?_ | refine SStore.on 0 rfl ?_ | refine SStore.on 1 rfl ?_ | refine SStore.on 2 rfl ?_ | refine SStore.on 3 rfl ?_ | refine SStore.on 4 rfl ?_ | refine SStore.on 5 rfl ?_ | refine SBox.f ?_ | refine SCall.p (by fail) ?_ | fail | refine SApp.c rfl rfl (by first | assumption | exact Moves.more (by assumption) (by assumption) | fail) (by first | (simp only [length_aBytes, List.length_append, List.length_cons, List.length_nil, List.length_map, List.length_range]; omega) | omega | fail) fun tk1 σ1 hm => ?_ | refine SReg.h 1 rfl [0, 1, 2, 3, 5, 4, 6, 7, 8, 9, 10, 11] [0, 0, 0, 0, 3, 0, 4, 0, 2, 0, 0, 2] (by decide +kernel) ?_; conv => whnf | refine And.intro (by first | omega | (simp only [List.length_cons, List.length_append, List.length_nil, List.length_map, length_aBytes, List.length_replicate, List.length_range]; omega) | fail) ?_ | refine ⟨_, ⟨by first | omega | (simp only [List.length_cons, List.length_append, List.length_nil, List.length_map, length_aBytes, List.length_replicate, List.length_range]; omega) | fail, by first | assumption | exact get_map (by assumption) | exact get_bytes (by assumption) | fail⟩, ?_⟩ | refine ⟨_, toBytes_aBytes _, ?_⟩ | refine ⟨_, by repeat (first | exact toB_nil | apply toB_cons | apply toB_consC _ (by first | omega | (simp only [List.length_cons, List.length_append, List.length_nil, List.length_map, length_aBytes, List.length_replicate, List.length_range]; omega) | fail)), ?_⟩ | refine ⟨_, IntWalk.i64_in _ (by first | omega | (simp only [List.length_cons, List.length_append, List.length_nil, List.length_map, length_aBytes, List.length_replicate, List.length_range]; omega) | fail), ?_⟩ | refine ⟨_, wrap_u8 _, ?_⟩ | refine ⟨_, rfl, ?_⟩ | refine ⟨true, fun b1 hb1 => ?_⟩ | intro b1 hb1 | fail); conv => whnf))
        exact ⟨(n, (n2 v (a, false)).2, acc ++ [((n2 v (a, false)).1 : Int)], _, _), Nat.lt_succ_self n, by repeat (first | exact trivial | refine ⟨by first | trivial | exact Weak.refl _ | exact Weak.tok _ _ _ | exact Weak.of_eq (congrArg (AV.int _) (by omega)) | exact Weak.of_eq (congrArg AV.bool (by fail)) | exact Weak.nils _ _ (.inr rfl), ?_⟩), .refl _, fin b' cap' σ' q1 q2 q3 q4⟩
end Go.Proofs.YtkbmkhhcppfcnaaDoor
end
section
set_option linter.unusedVariables false
set_option linter.unusedSimpArgs false
set_option maxRecDepth 100000
set_option maxHeartbeats 1000000
namespace Go.Proofs.YtkbmkhhcppfcnaaDoor
open Go.Al Go.RowKit
def tabs2 : List AV := [.int .u8 97, .fn (.func 112) [] [], .int .u8 98, .fn (.func 114) [] [], .int .u8 110, .fn (.func 116) [] [], .int .u8 113, .fn (.func 117) [] [], .int .u8 115, .fn (.func 118) [] [], .int .u8 120, .fn (.func 119) [] []]
theorem tables2_any (w0 : World) : CallP Tryd.prog w0 78 [] (.agg tabs2) := by
  refine CallP.x Ty.tok Ty.mixed Tryd.func78 rfl Tryd.ntmps78 rfl (by simp) (by decide +kernel) fun σ => ?_
  (conv => whnf); intro b1 hb1; (conv => whnf); refine SStore.on 0 rfl ?_; (conv => whnf); refine SLoad.on 0 rfl ?_; (conv => whnf)
  exact .p (by repeat (first | assumption | exact .refl _ | refine le_setBox ?_ (by first | assumption | exact none_in (by assumption) | exact none_in (none_in (by assumption)) | exact none_in (none_in (none_in (by assumption))) | fail) | exact Moves.le (by assumption) | refine .trans ?_ (Moves.le (by assumption)))) rfl
theorem isSeq_any (w0 : World) (m : Msg) (seq : Int) : CallP Tryd.prog w0 121 [eMsg m, .vp (.int .i64 seq)] (.bool (decide (m.seq = seq))) := by
  refine CallP.x Ty.tok Ty.mixed Tryd.func121 rfl Tryd.ntmps121 rfl (by simp) (by decide +kernel) fun σ => ?_
  (conv => whnf); refine SBox.f ?_; (conv => whnf); exact .p (.refl _) rfl
def idx2 (seq : Int) (l : List Msg) : Int := match l.findIdx? (fun m => decide (m.seq = seq)) with
  | some i => (i : Nat)
  | none => -1
theorem idx2_at {seq : Int} {l : List Msg} {i : Nat} {m : Msg} (h : ∀ j m', j < i → l[j]? = some m' → m'.seq ≠ seq) (hi : l[i]? = some m) (hm : m.seq = seq) : idx2 seq l = i := by
  have : l.findIdx? (fun m => decide (m.seq = seq)) = some i := by
    obtain ⟨hlt, rfl⟩ := List.getElem?_eq_some_iff.1 hi
    rw [List.findIdx?_eq_some_iff_getElem]
    exact ⟨hlt, by simpa using hm, fun j hj => by simpa using h j _ hj (by simp)⟩
  rw [idx2, this]
theorem idx2_no {seq : Int} {l : List Msg} (h : ∀ j m', j < l.length → l[j]? = some m' → m'.seq ≠ seq) : idx2 seq l = -1 := by
  have : l.findIdx? (fun m => decide (m.seq = seq)) = none := by
    rw [List.findIdx?_eq_none_iff]
    intro x hx
    obtain ⟨j, hj, rfl⟩ := List.getElem_of_mem hx
    simpa using h j _ hj (by simp)
  rw [idx2, this]
theorem indexNil_any (w0 : World) (seq : Int) : CallP Tryd.prog w0 120 [.nils, .fn (.func 121) [] [.vp (.int .i64 seq)]] (.int .i64 (-1)) := by
  refine CallP.x Ty.tok Ty.mixed Tryd.func120 rfl Tryd.ntmps120 rfl (by simp) (by decide +kernel) fun σ => ?_
  (conv => whnf)
  skip
  refine SLoop.by Ty.mixed (fun (_ : Unit) => 0) (fun _ => [(7, .int .i64 0), (8, .int .i64 0)]) (fun _ => []) (fun _ s => s = σ) () ⟨by repeat (first | exact trivial | refine ⟨by first | trivial | exact Weak.refl _ | exact Weak.tok _ _ _ | exact Weak.of_eq (congrArg (AV.int _) (by omega)) | exact Weak.of_eq (congrArg AV.bool (by fail)) | exact Weak.nils _ _ (.inr rfl), ?_⟩), BSub.none _, rfl⟩ ?_
  rintro _ s rfl; (conv => whnf); refine SIf.n Ty.mixed (by exact rfl) ?_; (conv => whnf); exact .p (.refl _) rfl
def fm (l : List Msg) : List AV := (l.map eMsg).flatMap AV.cells
theorem fm_len (l : List Msg) : (fm l).length = l.length * 8 := by unfold fm; rw [flat_len (msgs_sz l), List.length_map]
theorem fm_split {q : List Msg} {i : Nat} {m : Msg} (h : q[i]? = some m) : fm q = fm (q.take i) ++ mc m ++ fm (q.drop (i + 1)) := by
  obtain ⟨hi, rfl⟩ := List.getElem?_eq_some_iff.1 h
  have e : q = q.take i ++ q[i] :: q.drop (i + 1) := by rw [← List.drop_eq_getElem_cons hi, List.take_append_drop]
  conv => lhs; rw [e]
  simp only [fm, List.map_append, List.map_cons, List.flatMap_append, List.flatMap_cons, List.append_assoc]
  rfl
theorem index_any (w0 : World) (seq : Int) (q : List Msg) (b cap : Nat) (junk : List AV) (σ : St) (hb : σ.box b = some (fm q ++ junk)) (hl : q.length ≤ 1000000) :
    CallW Tryd.prog w0 120 [.msl b 0 q.length cap, .fn (.func 121) [] [.vp (.int .i64 seq)]] σ (fun r s => r = .int .i64 (idx2 seq q) ∧ s = σ) := by
  refine CallW.x Ty.tok Ty.mixed Tryd.func120 rfl Tryd.ntmps120 rfl (by simp) (by decide +kernel) (.nil σ) ?_; (conv => whnf)
  skip
  refine SLoop.by2 Ty.mixed (fun i => q.length - i) (fun i => [(0, .msl b 0 q.length cap), (1, .fn (.func 121) [] [.vp (.int .i64 seq)]), (7, .int .i64 q.length), (8, .int .i64 i)]) (fun _ => []) (fun i s => i ≤ q.length ∧ (∀ j m', j < i → q[j]? = some m' → m'.seq ≠ seq) ∧ s = σ) 0 ⟨by repeat (first | exact trivial | refine ⟨by first | trivial | exact Weak.refl _ | exact Weak.tok _ _ _ | exact Weak.of_eq (congrArg (AV.int _) (by omega)) | exact Weak.of_eq (congrArg AV.bool (by fail)) | exact Weak.nils _ _ (.inr rfl), ?_⟩), BSub.none _, Nat.zero_le _, fun j m' h => absurd h (Nat.not_lt_zero _), rfl⟩ ?_
  rintro i s ⟨hi, hj, rfl⟩ hK
  by_cases hlt : i < q.length
  · have hc : decide ((i : Int) < (q.length : Nat)) = true := decide_eq_true (by omega)
    have ga : q[i]? = some q[i] := by simp [hlt]
    have hs := fm_split ga
    generalize q[i] = m at ga hs
    rw [hs, List.append_assoc] at hb
    have ho : 0 + (i : Int).toNat * 8 = (fm (q.take i)).length := by rw [fm_len, List.length_take]; simp; omega
    refine ⟨[(b, fm (q.take i) ++ mc m ++ (fm (q.drop (i + 1)) ++ junk))], ⟨by simpa using hb, by simp⟩, ?_⟩
    (conv => whnf); refine SIf.y Ty.mixed (by assumption) ?_; (conv => whnf); refine And.intro (by omega) ?_; (conv => whnf); refine SLoad.midA 0 rfl ho rfl rfl ?_; (conv => whnf); refine SCall.p (by exact isSeq_any w0 m seq) ?_; (conv => whnf)
    (refine SIf.x Ty.mixed (fun hc => ?_) (fun hc => ?_) <;> (conv => whnf))
    · have hm : m.seq = seq := by simpa using hc
      skip
      exact .p (.refl _) (by rw [idx2_at hj ga hm])
    · have hm : m.seq ≠ seq := by simpa using hc
      refine ⟨_, IntWalk.i64_in _ (by omega), ?_⟩; (conv => whnf)
      refine ⟨i + 1, by omega, by repeat (first | exact trivial | refine ⟨by first | trivial | exact Weak.refl _ | exact Weak.tok _ _ _ | exact Weak.of_eq (congrArg (AV.int _) (by omega)) | exact Weak.of_eq (congrArg AV.bool (by fail)) | exact Weak.nils _ _ (.inr rfl), ?_⟩), BSub.none _, by omega, fun j m' h1 h2 => ?_, rfl⟩
      by_cases e : j = i
      · subst e; rw [ga] at h2; cases h2; exact hm
      · exact hj j m' (by omega) h2
  · have hc : decide ((i : Int) < (q.length : Nat)) = false := decide_eq_false (by omega)
    have hge : i = q.length := by omega
    subst hge
    refine ⟨[], .nil _, ?_⟩; (conv => whnf); refine SIf.n Ty.mixed (by assumption) ?_; (conv => whnf); exact .p (.refl _) (by rw [idx2_no hj])
end Go.Proofs.YtkbmkhhcppfcnaaDoor
end
section
set_option linter.unusedVariables false
set_option linter.unusedSimpArgs false
set_option maxRecDepth 100000
set_option maxHeartbeats 1000000
namespace Go.Proofs.YtkbmkhhcppfcnaaDoor
open Go.Al Go.RowKit
inductive PlaceAt (τ s : St) (bx : Nat) (x : Sub) (ra rq : Option Nat) (seq : Int) : Nat → Nat → Prop
  | found (i : Nat) (m : Msg) (b : Nat) (o : Nat) (hr : rq = some b) (hi : x.queue[i]? = some m) (hm : m.seq = seq) (hj : ∀ j m', j < i → x.queue[j]? = some m' → m'.seq ≠ seq) (ho : o = (fm (x.queue.take i)).length) : PlaceAt τ s bx x ra rq seq b o
  | lone (bm : Nat) (hj : ∀ m ∈ x.queue, m.seq ≠ seq) (hb : s.box bm = some (mc (msg0 0))) (hn : τ.box bm = none) (h1 : bm ≠ bx) (h2 : ra ≠ some bm) (h3 : rq ≠ some bm) : PlaceAt τ s bx x ra rq seq bm 0
def queued (t : UInt8) (seq : Int) (x : Sub) : Sub := if t.toNat = 98 then { x with queue := x.queue ++ [msg0 seq] } else x
theorem place_any (w0 : World) (x : Sub) (ac qv : AV) (ra rq : Option Nat) (τ : St) (bx : Nat) (t : UInt8) (seq : Int) (σ : St) (hn : x.queue.length ≤ 100000) (hx : XAt τ σ bx x ac qv ra rq) :
    CallW Tryd.prog w0 79 [.ptr bx 0, .int .u8 t.toNat, .int .i64 seq] σ (fun r s => ∃ bm o qv' rq', r = .ptr bm o ∧ XAt τ s bx (queued t seq x) ac qv' ra rq' ∧ PlaceAt τ s bx (queued t seq x) ra rq' seq bm o) := by
  refine CallW.x (B := [(bx, xc x ac qv)]) Ty.tok Ty.mixed Tryd.func79 rfl Tryd.ntmps79 rfl (by simp) (by decide +kernel) ⟨by simp [hx.hbx], by simp⟩ ?_
  (conv => whnf); refine SBox.f ?_; (conv => whnf); refine SIf.meet Ty.mixed (fun (a : AV × Option Nat) => [(0, .ptr bx 0), (5, .vp (.int .i64 seq))]) (fun (qv', rq') => [(bx, xc (queued t seq x) ac qv')]) (fun (qv', rq') s => XAt τ s bx (queued t seq x) ac qv' ra rq') (fun hc => ?_) (fun hc => ?_) ?_
  · have ht : t.toNat = 98 := by simp at hc; omega
    have hqd : queued t seq x = { x with queue := x.queue ++ [msg0 seq] } := by rw [queued, if_pos ht]
    rw [hqd]
    cases hx.q with
    | nil h0 =>
      (conv => whnf); refine SReg.d [0, 1, 2, 3, 4, 5, 6, 7, 8, 9, 10, 11] [0, 0, 0, 0, 1, 1, 0, 0, 2, 0, 0, 2] (by decide +kernel) ?_; (conv => whnf); (conv => whnf); refine SLoad.on 0 rfl ?_; (conv => whnf)
      refine SApp.row (n' := (x.queue ++ [msg0 seq]).length) (by simp) hx.q rfl (msgs_sz _) rfl (by simp only [List.length_map]; omega) (by simp) fun b' cap' σ' q1 q2 q3 q4 => ?_
      (conv => whnf); refine SStore.on 0 rfl ?_; (conv => whnf)
      exact ⟨(_, _), by repeat (first | exact trivial | refine ⟨by first | trivial | exact Weak.refl _ | exact Weak.tok _ _ _ | exact Weak.of_eq (congrArg (AV.int _) (by omega)) | exact Weak.of_eq (congrArg AV.bool (by fail)) | exact Weak.nils _ _ (.inr rfl), ?_⟩), .refl _, XAt.appQ (m := msg0 seq) hx q1 q2 q3 q4⟩
    | own b cap junk hb hcp hl =>
      (conv => whnf); refine SReg.d [0, 1, 2, 3, 4, 5, 6, 7, 8, 9, 10, 11] [0, 0, 0, 0, 1, 1, 0, 0, 2, 0, 0, 2] (by decide +kernel) ?_; (conv => whnf); (conv => whnf); refine SLoad.on 0 rfl ?_; (conv => whnf)
      refine SApp.row (n' := (x.queue ++ [msg0 seq]).length) (by simp) hx.q rfl (msgs_sz _) rfl (by simp only [List.length_map]; omega) (by simp only [List.mem_cons, List.not_mem_nil, or_false, forall_eq]; exact fun e => (hx.qn _ e).2 rfl) fun b' cap' σ' q1 q2 q3 q4 => ?_
      (conv => whnf); refine SStore.on 0 rfl ?_; (conv => whnf)
      exact ⟨(_, _), by repeat (first | exact trivial | refine ⟨by first | trivial | exact Weak.refl _ | exact Weak.tok _ _ _ | exact Weak.of_eq (congrArg (AV.int _) (by omega)) | exact Weak.of_eq (congrArg AV.bool (by fail)) | exact Weak.nils _ _ (.inr rfl), ?_⟩), .refl _, XAt.appQ (m := msg0 seq) hx q1 q2 q3 q4⟩
  · have ht : ¬ t.toNat = 98 := by simp at hc; omega
    have hqd : queued t seq x = x := by rw [queued, if_neg ht]
    rw [hqd]
    (conv => whnf)
    skip
    exact ⟨(_, _), by repeat (first | exact trivial | refine ⟨by first | trivial | exact Weak.refl _ | exact Weak.tok _ _ _ | exact Weak.of_eq (congrArg (AV.int _) (by omega)) | exact Weak.of_eq (congrArg AV.bool (by fail)) | exact Weak.nils _ _ (.inr rfl), ?_⟩), .refl _, hx⟩
  · rintro ⟨qv', rq'⟩ s hq
    have hn' : (queued t seq x).queue.length ≤ 100001 := by unfold queued; split <;> first | (simp; omega) | omega
    generalize queued t seq x = y at hq hn'
    cases hq.q with
    | nil h0 =>
      (conv => whnf); refine SLoad.on 0 rfl ?_; (conv => whnf); refine SCall.p (by exact indexNil_any w0 seq) ?_; (conv => whnf); refine SIf.y Ty.mixed (by exact rfl) ?_; (conv => whnf); refine SBox.b rfl ?_; (conv => whnf); intro b1 hb1; (conv => whnf)
      have h0' : y.queue = [] := by simpa using h0
      exact .w ⟨b1, 0, .nils, none, rfl, hq.other (le_none hq.le hb1) (fun e => (by subst e; rw [hq.hbx] at hb1; cases hb1)) (hq.ra_ne hb1) (by simp) _, .lone b1 (by rw [h0']; simp) setBox_same (le_none hq.le hb1) (fun e => (by subst e; rw [hq.hbx] at hb1; cases hb1)) (hq.ra_ne hb1) (by simp)⟩
    | own b cap junk hb hcp hl =>
      rw [List.length_map] at hq ⊢
      cases hf : y.queue.findIdx? (fun m => decide (m.seq = seq)) with
      | none =>
        have he : idx2 seq y.queue = -1 := by rw [idx2, hf]
        have hd : decide (idx2 seq y.queue < 0) = true := by rw [he]; rfl
        rw [List.findIdx?_eq_none_iff] at hf
        (conv => whnf); refine SLoad.on 0 rfl ?_; (conv => whnf); refine SCall.q (index_any w0 seq y.queue b cap junk _ hb (by omega)) (.inr rfl) ?_; (conv => whnf); refine SIf.y Ty.mixed (by assumption) ?_; (conv => whnf); refine SBox.b rfl ?_; (conv => whnf); intro b1 hb1; (conv => whnf)
        exact .w ⟨b1, 0, _, some b, rfl, hq.other (le_none hq.le hb1) (fun e => (by subst e; rw [hq.hbx] at hb1; cases hb1)) (hq.ra_ne hb1) (hq.rq_ne hb1) _, .lone b1 (fun m hm => by simpa using hf m hm) setBox_same (le_none hq.le hb1) (fun e => (by subst e; rw [hq.hbx] at hb1; cases hb1)) (hq.ra_ne hb1) (hq.rq_ne hb1)⟩
      | some i =>
        have he : idx2 seq y.queue = i := by rw [idx2, hf]
        have hd : decide (idx2 seq y.queue < 0) = false := by rw [he]; exact decide_eq_false (by omega)
        rw [List.findIdx?_eq_some_iff_getElem] at hf
        obtain ⟨hlt, hm, hj⟩ := hf
        have ho : 0 + (idx2 seq y.queue).toNat * 8 = (fm (y.queue.take i)).length := by rw [he, fm_len, List.length_take]; simp; omega
        (conv => whnf); refine SLoad.on 0 rfl ?_; (conv => whnf); refine SCall.q (index_any w0 seq y.queue b cap junk _ hb (by omega)) (.inr rfl) ?_; (conv => whnf); refine SIf.n Ty.mixed (by assumption) ?_; (conv => whnf); refine SLoad.on 0 rfl ?_; (conv => whnf); refine And.intro (by omega) ?_; (conv => whnf)
        exact .w ⟨b, _, _, some b, rfl, hq, .found i _ b _ rfl (List.getElem?_eq_getElem hlt) (by simpa using hm) (fun j m' h1 h2 => by obtain ⟨h3, rfl⟩ := List.getElem?_eq_some_iff.1 h2; simpa using hj j h1) ho⟩
end Go.Proofs.YtkbmkhhcppfcnaaDoor
end
section
set_option linter.unusedVariables false
set_option linter.unusedSimpArgs false
set_option maxRecDepth 100000
set_option maxHeartbeats 1000000
namespace Go.Proofs.YtkbmkhhcppfcnaaDoor
open Go.Al Go.RowKit
theorem updF_none {seq : Int} {f : Msg → Msg} : ∀ {l : List Msg}, (∀ m ∈ l, m.seq ≠ seq) → updF seq f l = l
  | [], _ => rfl
  | m :: l, h => by rw [updF, if_neg (h m (by simp)), updF_none fun m' hm => h m' (by simp [hm])]
theorem updF_set {seq : Int} {f : Msg → Msg} : ∀ {l : List Msg} {i : Nat} {m : Msg}, (∀ j m', j < i → l[j]? = some m' → m'.seq ≠ seq) → l[i]? = some m → m.seq = seq → updF seq f l = l.set i (f m)
  | [], i, m, _, h, _ => by simp at h
  | a :: l, 0, m, _, h, hm => by simp at h; subst h; rw [updF, if_pos hm]; rfl
  | a :: l, i + 1, m, hj, h, hm => by
    rw [updF, if_neg (hj 0 a (by omega) (by simp)), updF_set (l := l) (i := i) (fun j m' h1 h2 => hj (j + 1) m' (by omega) (by simpa using h2)) (by simpa using h) hm]; rfl
theorem fm_set {q : List Msg} {i : Nat} (m : Msg) (h : i < q.length) : fm (q.set i m) = fm (q.take i) ++ mc m ++ fm (q.drop (i + 1)) := by
  have ga : (q.set i m)[i]? = some m := by simp [h]
  have := fm_split ga
  rw [this]
  congr 1
  · congr 1; rw [List.take_set_of_le (Nat.le_refl i)]
  · rw [List.drop_set_of_lt (Nat.lt_succ_self i)]
theorem msg_at (w0 : World) {f : FuncId} {g : List UInt8 → Msg → Msg} (hf : MsgW w0 f g) {τ σ : St} {bx br bm o : Nat} {x : Sub} {ac qv : AV} {ra rq : Option Nat} {seq : Int} {v : List UInt8} (hv : v.length ≤ 1000000) (hx : XAt τ σ bx x ac qv ra rq) (hp : PlaceAt τ σ bx x ra rq seq bm o) (hr : σ.box br = some (rd2 v (0, false))) (hrn : τ.box br = none) (hb : br ≠ bx) (h1 : ra ≠ some br) (h2 : rq ≠ some br) (h3 : br ≠ bm) :
    CallW Tryd.prog w0 f [.ptr bx 0, .ptr bm o, .ptr br 0] σ (fun r s => r = .tup [] ∧ XAt τ s bx { x with queue := updF seq (g v) x.queue } ac qv ra rq) := by
  cases hp with
  | found i m b o hrq hi hm hj ho =>
    subst ho
    cases hq : hx.q with
    | nil h0 => cases hrq
    | own b0 cap junk hbb hc hl =>
      cases hrq
      have hlt : i < x.queue.length := by obtain ⟨h, _⟩ := List.getElem?_eq_some_iff.1 hi; exact h
      have hs := fm_split hi
      have hbb' : σ.box bm = some (fm (x.queue.take i) ++ mc m ++ (fm (x.queue.drop (i + 1)) ++ junk)) := by
        rw [← List.append_assoc, ← hs]; exact hbb
      refine (hf v m bx bm br (fm (x.queue.take i)) _ σ hv hbb' hr (Ne.symm h3)).mono ?_
      rintro r s ⟨rfl, s', rfl⟩
      refine ⟨rfl, ?_⟩
      have hu := updF_set (f := g v) hj hi hm
      have hx1 := hx.other hrn hb h1 h2 (rd2 v s')
      refine ⟨le_setBox hx1.le (hx.qn _ rfl).1, by rw [setBox_ne (Ne.symm (hx.qn _ rfl).2)]; exact hx1.hbx, hx.bxn, hx1.a.set (fun e => hx.aq _ e rfl), ?_, hx.an, hx.qn, hx.aq⟩
      have e1 : ({ x with queue := updF seq (g v) x.queue } : Sub).queue = x.queue.set i (g v m) := hu
      rw [e1]
      have hw := RowV.own (σ := (σ.setBox br (rd2 v s')).setBox bm (fm (x.queue.take i) ++ mc (g v m) ++ (fm (x.queue.drop (i + 1)) ++ junk))) (sz := 8) (xs := (x.queue.set i (g v m)).map eMsg) bm cap junk (by rw [setBox_same, ← List.append_assoc, ← fm_set _ hlt]; rfl) (by simpa using hc) (by
        have e2 : ((x.queue.set i (g v m)).map eMsg).flatMap AV.cells = fm (x.queue.set i (g v m)) := rfl
        have e3 : (x.queue.map eMsg).flatMap AV.cells = fm x.queue := rfl
        rw [e3, List.length_append, fm_len] at hl
        rw [e2, List.length_append, fm_len, List.length_set]; exact hl)
      simpa using hw
  | lone bm hj hbm hn k1 k2 k3 =>
    refine (hf v (msg0 0) bx bm br [] [] σ hv (by simpa using hbm) hr (Ne.symm h3)).mono ?_
    rintro r s ⟨rfl, s', rfl⟩
    refine ⟨rfl, ?_⟩
    rw [updF_none hj]
    exact (hx.other hrn hb h1 h2 (rd2 v s')).other hn k1 k2 k3 _
def tell (t : UInt8) (seq : Int) (v : List UInt8) (x : Sub) : Sub :=
  if t = 97 then { x with acks := (gp2 v (n2 v (0, false)).1 (n2 v (0, false)).2 x.acks).1 }
  else if t = 98 then { x with queue := updF seq (mB v) (x.queue ++ [msg0 seq]) }
  else if t = 110 then { x with note := (t2 v (0, false) 30).1 }
  else if t = 113 then { x with queue := updF seq (mQ v) x.queue }
  else if t = 115 then sS v x
  else if t = 120 then { x with queue := updF seq (mX v) x.queue }
  else x
theorem add2_tell (x : Sub) (r : Row) : add2 x r = tell (parts r.key).t (parts r.key).seq r.val { x with id := (parts r.key).id } := rfl
def ReadT (w0 : World) (f : FuncId) (tag : UInt8) : Prop := ∀ (τ σ : St) (bx br bm o : Nat) (x : Sub) (ac qv : AV) (ra rq : Option Nat) (seq : Int) (v : List UInt8), v.length ≤ 1000000 → x.acks.length ≤ 1000000 → XAt τ σ bx (queued tag seq x) ac qv ra rq → PlaceAt τ σ bx (queued tag seq x) ra rq seq bm o → σ.box br = some (rd2 v (0, false)) → τ.box br = none → br ≠ bx → ra ≠ some br → rq ≠ some br → br ≠ bm →
  CallW Tryd.prog w0 f [.ptr bx 0, .ptr bm o, .ptr br 0] σ (fun r s => r = .tup [] ∧ ∃ ac' ra', XAt τ s bx (tell tag seq v x) ac' qv ra' rq)
theorem rT_a (w0 : World) : ReadT w0 112 97 := fun τ σ bx br bm o x ac qv ra rq seq v hv hn hx hp hr hrn h1 h2 h3 h4 => tA_any w0 v x ac qv ra rq τ bx br bm o σ hv hn hx hr hrn h1 h2 h3
theorem rT_b (w0 : World) : ReadT w0 114 98 := fun τ σ bx br bm o x ac qv ra rq seq v hv hn hx hp hr hrn h1 h2 h3 h4 => (msg_at w0 (tB_any w0) hv hx hp hr hrn h1 h2 h3 h4).mono fun r s ⟨e, h⟩ => ⟨e, _, _, h⟩
theorem rT_n (w0 : World) : ReadT w0 116 110 := fun τ σ bx br bm o x ac qv ra rq seq v hv hn hx hp hr hrn h1 h2 h3 h4 => (tN_any w0 v x ac qv bx br bm o σ hv hx.hbx hr (Ne.symm h1)).mono fun r s ⟨e, s', h⟩ => ⟨e, _, _, by subst h; exact (hx.other hrn h1 h2 h3 _).own _ rfl rfl⟩
theorem rT_q (w0 : World) : ReadT w0 117 113 := fun τ σ bx br bm o x ac qv ra rq seq v hv hn hx hp hr hrn h1 h2 h3 h4 => (msg_at w0 (tQ_any w0) hv hx hp hr hrn h1 h2 h3 h4).mono fun r s ⟨e, h⟩ => ⟨e, _, _, h⟩
theorem rT_s (w0 : World) : ReadT w0 118 115 := fun τ σ bx br bm o x ac qv ra rq seq v hv hn hx hp hr hrn h1 h2 h3 h4 => (tS_any w0 v x ac qv bx br bm o σ hv hx.hbx hr (Ne.symm h1)).mono fun r s ⟨e, s', h⟩ => ⟨e, _, _, by subst h; exact (hx.other hrn h1 h2 h3 _).own (sS v x) rfl rfl⟩
theorem rT_x (w0 : World) : ReadT w0 119 120 := fun τ σ bx br bm o x ac qv ra rq seq v hv hn hx hp hr hrn h1 h2 h3 h4 => (msg_at w0 (tX_any w0) hv hx hp hr hrn h1 h2 h3 h4).mono fun r s ⟨e, h⟩ => ⟨e, _, _, h⟩
end Go.Proofs.YtkbmkhhcppfcnaaDoor
end
section
set_option linter.unusedVariables false
set_option linter.unusedSimpArgs false
namespace Go.Proofs.YtkbmkhhcppfcnaaDoor
open Go.Al
structure F2 (x : Sub) (n m : Nat) : Prop where
  name : x.name.length ≤ 1000
  topic : x.topic.length ≤ 1000
  want : x.want.length ≤ 1000
  note : x.note.length ≤ 1000
  acks : x.acks.length ≤ n
  queue : x.queue.length ≤ m
  msgs : ∀ m ∈ x.queue, m.body.length ≤ 1000 ∧ m.attr.length ≤ 1000
theorem n2_step (v : List UInt8) (s : Nat × Bool) : (n2 v s).2.2 = false → s.1 < (n2 v s).2.1 ∧ (n2 v s).2.1 ≤ v.length := by
  unfold n2
  split
  · intro h; cases h
  · rename_i hc
    intro _
    simp at hc
    exact ⟨getNum_gt v s.1 hc.2, (getNum_le v s.1).1⟩
theorem g2_len : ∀ (v : List UInt8) (n : Nat) (s : Nat × Bool) (acc : List Int), (s.2 = false → s.1 ≤ v.length) → (gp2 v n s acc).1.length ≤ acc.length + (v.length - s.1) + 1
  | v, 0, s, acc, _ => by simp [gp2]; omega
  | v, n + 1, s, acc, h => by
    rw [gp2]
    split
    · simp; omega
    · rename_i hs
      have hs' : s.2 = false := by simpa using hs
      have h0 := h hs'
      by_cases hb : (n2 v s).2.2 = false
      · have h1 := n2_step v s hb
        have := g2_len v n (n2 v s).2 (acc ++ [((n2 v s).1 : Int)]) (fun _ => h1.2)
        rw [List.length_append, List.length_singleton] at this
        omega
      · have hb' : (n2 v s).2.2 = true := by simpa using hb
        cases n with
        | zero => simp [gp2]
        | succ n => rw [gp2, if_pos hb']; simp
theorem updF_len (seq : Int) (f : Msg → Msg) : ∀ l : List Msg, (updF seq f l).length = l.length
  | [] => rfl
  | m :: l => by rw [updF]; split <;> simp [updF_len seq f l]
theorem updF_mem (seq : Int) (f : Msg → Msg) : ∀ (l : List Msg) (m : Msg), m ∈ updF seq f l → m ∈ l ∨ ∃ m' ∈ l, m = f m'
  | [], m, h => by simp [updF] at h
  | a :: l, m, h => by
    rw [updF] at h
    split at h
    · rcases List.mem_cons.1 h with rfl | h
      · exact .inr ⟨a, by simp, rfl⟩
      · exact .inl (by simp [h])
    · rcases List.mem_cons.1 h with rfl | h
      · exact .inl (by simp)
      · rcases updF_mem seq f l m h with h | ⟨m', h1, h2⟩
        · exact .inl (by simp [h])
        · exact .inr ⟨m', by simp [h1], h2⟩
theorem upd_fit {seq : Int} {f : Msg → Msg} {l : List Msg} (h : ∀ m ∈ l, m.body.length ≤ 1000 ∧ m.attr.length ≤ 1000) (hf : ∀ m : Msg, m.body.length ≤ 1000 ∧ m.attr.length ≤ 1000 → (f m).body.length ≤ 1000 ∧ (f m).attr.length ≤ 1000) : ∀ m ∈ updF seq f l, m.body.length ≤ 1000 ∧ m.attr.length ≤ 1000 := fun m hm => by
  rcases updF_mem seq f l m hm with h1 | ⟨m', h1, rfl⟩
  · exact h m h1
  · exact hf m' (h m' h1)
theorem add2_fit {x : Sub} {n m : Nat} (h : F2 x n m) (r : Row) : F2 (add2 x r) (n + r.val.length + 1) (m + 1) := by
  have ha := h.acks
  have hq := h.queue
  have tl := fun s k => t2_len r.val s k
  unfold add2
  dsimp only
  split
  · refine ⟨h.name, h.topic, h.want, h.note, ?_, by show x.queue.length ≤ m + 1; omega, h.msgs⟩
    have := g2_len r.val (n2 r.val (0, false)).1 (n2 r.val (0, false)).2 x.acks (fun hf => (n2_step r.val (0, false) hf).2)
    show (gp2 _ _ _ _).1.length ≤ _
    omega
  · split
    · refine ⟨h.name, h.topic, h.want, h.note, by show x.acks.length ≤ _; omega, by show (updF _ _ _).length ≤ _; rw [updF_len]; simp; omega, upd_fit (fun m hm => ?_) fun m hm => ⟨Nat.le_trans (tl _ _) (by decide), hm.2⟩⟩
      rcases List.mem_append.1 hm with hm | hm
      · exact h.msgs m hm
      · obtain rfl := List.mem_singleton.1 hm; simp [msg0]
    · split
      · exact ⟨h.name, h.topic, h.want, Nat.le_trans (tl _ _) (by decide), by show x.acks.length ≤ _; omega, by show x.queue.length ≤ m + 1; omega, h.msgs⟩
      · split
        · exact ⟨h.name, h.topic, h.want, h.note, by show x.acks.length ≤ _; omega, by show (updF _ _ _).length ≤ _; rw [updF_len]; omega, upd_fit h.msgs fun m hm => ⟨hm.1, Nat.le_trans (tl _ _) (by decide)⟩⟩
        · split
          · exact ⟨Nat.le_trans (tl _ _) (by decide), Nat.le_trans (tl _ _) (by decide), Nat.le_trans (tl _ _) (by decide), h.note, by show x.acks.length ≤ _; omega, by show x.queue.length ≤ m + 1; omega, h.msgs⟩
          · split
            · exact ⟨h.name, h.topic, h.want, h.note, by show x.acks.length ≤ _; omega, by show (updF _ _ _).length ≤ _; rw [updF_len]; omega, upd_fit h.msgs fun m hm => hm⟩
            · exact ⟨h.name, h.topic, h.want, h.note, by show x.acks.length ≤ _; omega, by show x.queue.length ≤ m + 1; omega, h.msgs⟩
theorem rows2_snoc {l : List Row} {i : Nat} {r : Row} (h : l[i]? = some r) : rows2 (l.take (i + 1)) = add2 (rows2 (l.take i)) r := by
  rw [take_snoc h, rows2, List.foldl_append]; rfl
theorem rows2_fit (l : List Row) : ∀ i, i ≤ l.length → F2 (rows2 (l.take i)) (tot (l.take i)) i
  | 0, _ => ⟨by simp [rows2, sub0], by simp [rows2, sub0], by simp [rows2, sub0], by simp [rows2, sub0], by simp [rows2, sub0], by simp [rows2, sub0], by simp [rows2, sub0]⟩
  | i + 1, hi => by
    have h := rows2_fit l i (by omega)
    have hg : l[i]? = some l[i] := by simp [show i < l.length by omega]
    rw [rows2_snoc hg, tot_take hg]
    exact add2_fit h l[i]
theorem fin2_fits (l : List Row) (h : tot l ≤ 100000) : Fits (fin2 l) := by
  have hf := rows2_fit l l.length (Nat.le_refl _)
  have hl := tot_len l
  have ht := hf.acks
  have hq := hf.queue
  rw [List.take_length] at hf ht hq
  exact ⟨hf.name, hf.topic, hf.want, hf.note, by show (runUp _ _).length ≤ _; rw [runUp_len]; omega, by show (rows2 l).queue.length ≤ _; omega, hf.msgs⟩
end Go.Proofs.YtkbmkhhcppfcnaaDoor
end
section
set_option linter.unusedVariables false
set_option linter.unusedSimpArgs false
set_option maxRecDepth 100000
set_option maxHeartbeats 2000000
namespace Go.Proofs.YtkbmkhhcppfcnaaDoor
open Go.Al Go.RowKit
def ePts (p : Pts) : AV := .tup [.int .i64 p.v, .int .u8 p.t.toNat, .int .i64 p.id, .int .i64 p.seq, .bool p.ok]
theorem getD_get {k : List UInt8} {i : Nat} (h : i < k.length) : k[i]? = some (k.getD i 0) := by simp [List.getD, h]
theorem a_nilEn {E : AEnv} {x y : Operand} {yt : TypeId} {b : Bool} (hx : aeval E x = eErr b) (hy : y = .const .nilIface) : Al.Yields Tryd.prog E (.binOp .neq 65 x y yt) (.bool (!b)) := by
  subst hy
  cases b
  · exact a_nilI hx rfl (.inr ⟨_, _, rfl⟩) rfl rfl rfl
  · exact a_nilI hx rfl (.inl rfl) rfl rfl rfl
theorem a_nilEe {E : AEnv} {x y : Operand} {yt : TypeId} {b : Bool} (hx : aeval E x = eErr b) (hy : y = .const .nilIface) : Al.Yields Tryd.prog E (.binOp .eql 65 x y yt) (.bool b) := by
  subst hy
  cases b
  · exact a_nilI hx rfl (.inr ⟨_, _, rfl⟩) rfl rfl rfl
  · exact a_nilI hx rfl (.inl rfl) rfl rfl rfl
theorem partsS_any (w0 : World) (hL : Laid w0) (k : List UInt8) (hk : k.length ≤ 1000000) : CallP Tryd.prog w0 44 [.str k] (ePts (parts k)) := by
  refine CallP.start Tryd.func44 rfl Tryd.ntmps44 (by simp) fun σ Q hQ => ?_
  by_cases h0 : ¬ k.length = 22
  · have d0 : (!decide (((k.length : Nat) : Int) = 22)) = true := by simp; omega
    rw [parts, if_neg (fun h => h0 h.1)] at hQ
    refine W.seq ?_; refine W.regionL (by decide +kernel) rfl ?_; apply r_op; exact rfl; exact rfl; apply a_assign; (conv => (lhs; whnf)); apply r_op; exact rfl; exact rfl; apply a_assign; (conv => (lhs; whnf)); apply r_op; exact rfl; exact rfl; apply a_assign; (conv => (lhs; whnf)); apply r_op; exact rfl; exact rfl; apply a_assign; (conv => (lhs; whnf)); apply r_op; exact rfl; exact rfl
    apply a_assign; (conv => (lhs; whnf)); (with_reducible refine runs_done ?_); refine W.seq ?_; refine W.seq ?_; refine W.regionL (by decide +kernel) rfl ?_; apply r_op; exact rfl; exact rfl; apply a_move; (conv => (lhs; whnf)); apply r_op; exact rfl; exact rfl; apply g_call; exact a_len_str rfl; apply r_op; exact rfl; exact rfl; apply g_binOp; exact a_binI rfl rfl rfl; apply r_op; exact rfl
    exact rfl; apply a_move; (conv => (lhs; whnf)); apply q_skip; exact rfl; exact want_f rfl rfl rfl (by assumption); apply q_skip; exact rfl; exact want_f rfl rfl rfl (by assumption); apply q_skip; exact rfl; exact want_f rfl rfl rfl (by assumption); apply r_op; exact rfl; exact rfl; apply g_pick; apply a_pickT rfl (by assumption); (conv => (lhs; whnf)); apply r_op; exact rfl; exact rfl
    apply a_move; (conv => (lhs; whnf)); apply q_skip; exact rfl; exact want_f rfl rfl rfl (by exact rfl); apply q_skip; exact rfl; exact want_f rfl rfl rfl (by exact rfl); apply q_skip; exact rfl; exact want_f rfl rfl rfl (by exact rfl); apply r_op; exact rfl; exact rfl; apply g_pick; apply a_pickT rfl (by exact rfl); (conv => (lhs; whnf)); apply r_op; exact rfl; exact rfl; apply a_move
    (conv => (lhs; whnf)); apply q_skip; exact rfl; exact want_f rfl rfl rfl (by exact rfl); apply q_skip; exact rfl; exact want_f rfl rfl rfl (by exact rfl); apply q_skip; exact rfl; exact want_f rfl rfl rfl (by exact rfl); apply r_op; exact rfl; exact rfl; apply g_pick; apply a_pickT rfl (by exact rfl); (conv => (lhs; whnf)); apply r_op; exact rfl; exact rfl; apply a_move; (conv => (lhs; whnf))
    apply q_skip; exact rfl; exact want_f rfl rfl rfl (by exact rfl); apply q_skip; exact rfl; exact want_f rfl rfl rfl (by exact rfl); apply q_skip; exact rfl; exact want_f rfl rfl rfl (by exact rfl); apply r_op; exact rfl; exact rfl; apply g_pick; apply a_pickT rfl (by exact rfl); (conv => (lhs; whnf)); (with_reducible refine runs_done ?_); refine W.condT rfl (by exact rfl) ?_; refine W.seq ?_
    refine W.regionL (by decide +kernel) rfl ?_; apply r_op; exact rfl; exact rfl; apply a_assign; (conv => (lhs; whnf)); apply r_op; exact rfl; exact rfl; apply a_assign; (conv => (lhs; whnf)); apply r_op; exact rfl; exact rfl; apply a_assign; (conv => (lhs; whnf)); apply r_op; exact rfl; exact rfl; apply a_assign; (conv => (lhs; whnf)); apply r_op; exact rfl; exact rfl; apply a_assign
    (conv => (lhs; whnf)); (with_reducible refine runs_done ?_); refine W.ret ?_; show Q Exit.ret _ _; refine post_q hQ (by apply res_tmp; exact rfl; apply res_tmp; exact rfl; apply res_tmp; exact rfl; apply res_tmp; exact rfl; apply res_tmp; exact rfl; exact res_nil) (.inl rfl) (by exact .refl _) ?_; (conv => (lhs; whnf)); rfl
  have h0 := Decidable.of_not_not h0
  have d0 : (!decide (((k.length : Nat) : Int) = 22)) = false := by simp [h0]
  have g0 : k[(0 : Int).toNat]? = some (k.getD 0 0) := getD_get (by omega)
  have g1 : k[(1 : Int).toNat]? = some (k.getD 1 0) := getD_get (by omega)
  have hA1 := goAtoi_any w0 hL ((k.take (12 : Int).toNat).drop (2 : Int).toNat) (by simp; omega)
  have hA2 := goAtoi_any w0 hL ((k.take ((k.length : Nat) : Int).toNat).drop (12 : Int).toNat) (by simp; omega)
  have e1 : (k.take 12).drop 2 = (k.take (12 : Int).toNat).drop (2 : Int).toNat := rfl
  have e2 : k.drop 12 = (k.take ((k.length : Nat) : Int).toNat).drop (12 : Int).toNat := by rw [Int.toNat_natCast, List.take_length]; rfl
  have hp : parts k = if k.length = 22 ∧ (48 ≤ (k.getD 0 0).toNat ∧ (k.getD 0 0).toNat ≤ 57) ∧ (97 ≤ (k.getD 1 0).toNat ∧ (k.getD 1 0).toNat ≤ 122) then _ else _ := rfl
  rw [e1, e2] at hp
  generalize k.getD 0 0 = c0 at g0 hp
  generalize k.getD 1 0 = t at g1 hp
  generalize goAtoi ((k.take (12 : Int).toNat).drop (2 : Int).toNat) = A1 at hA1 hp
  generalize goAtoi ((k.take ((k.length : Nat) : Int).toNat).drop (12 : Int).toNat) = A2 at hA2 hp
  obtain ⟨a, ba⟩ := A1
  obtain ⟨b, bb⟩ := A2
  dsimp only at hA1 hA2 hp
  have hK : 48 ≤ c0.toNat ∧ c0.toNat ≤ 57 → CallP Tryd.prog w0 35 [.int .i64 (IntKind.i64.wrap (((Al.byteOf ((c0.toNat : Int) - 48)).toNat : Nat) : Int)), .int .u8 t.toNat, .int .i64 a, .int .i64 b] (.str (rkey (c0.toNat - 48) t a b)) := fun h => by
    rw [sub48 h]
    exact keyS_any w0 hL _ (by omega) _ a b
  clear e1 e2; refine W.seq ?_; refine W.regionL (by decide +kernel) rfl ?_; apply r_op; exact rfl; exact rfl; apply a_assign; (conv => (lhs; whnf)); apply r_op; exact rfl; exact rfl; apply a_assign; (conv => (lhs; whnf)); apply r_op; exact rfl; exact rfl; apply a_assign; (conv => (lhs; whnf)); apply r_op; exact rfl; exact rfl; apply a_assign; (conv => (lhs; whnf)); apply r_op; exact rfl; exact rfl
  apply a_assign; (conv => (lhs; whnf)); (with_reducible refine runs_done ?_); refine W.seq ?_; refine W.seq ?_; refine W.regionL (by decide +kernel) rfl ?_; apply r_op; exact rfl; exact rfl; apply a_move; (conv => (lhs; whnf)); apply r_op; exact rfl; exact rfl; apply g_call; exact a_len_str rfl; apply r_op; exact rfl; exact rfl; apply g_binOp; exact a_binI rfl rfl rfl; apply r_op; exact rfl
  exact rfl; apply a_move; (conv => (lhs; whnf)); apply r_op; exact rfl; exact want_t rfl rfl rfl (by assumption); apply a_move; (conv => (lhs; whnf)); apply r_op; exact rfl; exact want_t rfl rfl rfl (by assumption); apply g_index; exact a_indexS rfl rfl (by omega) (by assumption); apply r_op; exact rfl; exact want_t rfl rfl rfl (by assumption); apply g_binOp; exact a_binI rfl rfl rfl; apply r_op
  exact rfl; exact rfl; apply g_pick; apply a_pickF rfl (by assumption); (conv => (lhs; whnf)); apply r_op; exact rfl; exact rfl; apply a_move; (conv => (lhs; whnf)); refine q_split rfl rfl rfl (fun hg => ?_) (fun hg => ?_); apply q_skip; exact rfl; exact want_f rfl rfl rfl (by assumption); apply q_skip; exact rfl; exact want_f rfl rfl rfl (by assumption); apply q_skip; exact rfl
  exact want_f rfl rfl rfl (by assumption); apply r_op; exact rfl; exact rfl; apply g_pick; apply a_pickT rfl (by assumption); (conv => (lhs; whnf)); apply r_op; exact rfl; exact rfl; apply a_move; (conv => (lhs; whnf)); apply q_skip; exact rfl; exact want_f rfl rfl rfl (by exact rfl); apply q_skip; exact rfl; exact want_f rfl rfl rfl (by exact rfl); apply q_skip; exact rfl
  exact want_f rfl rfl rfl (by exact rfl); apply r_op; exact rfl; exact rfl; apply g_pick; apply a_pickT rfl (by exact rfl); (conv => (lhs; whnf)); apply r_op; exact rfl; exact rfl; apply a_move; (conv => (lhs; whnf)); apply q_skip; exact rfl; exact want_f rfl rfl rfl (by exact rfl); apply q_skip; exact rfl; exact want_f rfl rfl rfl (by exact rfl); apply q_skip; exact rfl
  exact want_f rfl rfl rfl (by exact rfl); apply r_op; exact rfl; exact rfl; apply g_pick; apply a_pickT rfl (by exact rfl); (conv => (lhs; whnf)); (with_reducible refine runs_done ?_); refine W.condT rfl (by exact rfl) ?_; refine W.seq ?_; refine W.regionL (by decide +kernel) rfl ?_; apply r_op; exact rfl; exact rfl; apply a_assign; (conv => (lhs; whnf)); apply r_op; exact rfl; exact rfl
  apply a_assign; (conv => (lhs; whnf)); apply r_op; exact rfl; exact rfl; apply a_assign; (conv => (lhs; whnf)); apply r_op; exact rfl; exact rfl; apply a_assign; (conv => (lhs; whnf)); apply r_op; exact rfl; exact rfl; apply a_assign; (conv => (lhs; whnf)); (with_reducible refine runs_done ?_); refine W.ret ?_; show Q Exit.ret _ _
  refine post_q hQ (by apply res_tmp; exact rfl; apply res_tmp; exact rfl; apply res_tmp; exact rfl; apply res_tmp; exact rfl; apply res_tmp; exact rfl; exact res_nil) (.inl rfl) (by exact .refl _) ?_; (conv => (lhs; whnf)); rotate_left; apply r_op; exact rfl; exact want_t rfl rfl rfl (by assumption); apply a_move; (conv => (lhs; whnf)); apply r_op; exact rfl
  exact want_t rfl rfl rfl (by assumption); apply g_index; exact a_indexS rfl rfl (by omega) (by assumption); apply r_op; exact rfl; exact want_t rfl rfl rfl (by assumption); apply g_binOp; exact a_binI rfl rfl rfl; apply r_op; exact rfl; exact rfl; apply g_pick; apply a_pickF rfl (by assumption); (conv => (lhs; whnf)); apply r_op; exact rfl; exact rfl; apply a_move; (conv => (lhs; whnf))
  refine q_split rfl rfl rfl (fun hg => ?_) (fun hg => ?_); apply q_skip; exact rfl; exact want_f rfl rfl rfl (by assumption); apply q_skip; exact rfl; exact want_f rfl rfl rfl (by assumption); apply q_skip; exact rfl; exact want_f rfl rfl rfl (by assumption); apply r_op; exact rfl; exact rfl; apply g_pick; apply a_pickT rfl (by assumption); (conv => (lhs; whnf)); apply r_op; exact rfl; exact rfl
  apply a_move; (conv => (lhs; whnf)); apply q_skip; exact rfl; exact want_f rfl rfl rfl (by exact rfl); apply q_skip; exact rfl; exact want_f rfl rfl rfl (by exact rfl); apply q_skip; exact rfl; exact want_f rfl rfl rfl (by exact rfl); apply r_op; exact rfl; exact rfl; apply g_pick; apply a_pickT rfl (by exact rfl); (conv => (lhs; whnf)); (with_reducible refine runs_done ?_)
  refine W.condT rfl (by exact rfl) ?_; refine W.seq ?_; refine W.regionL (by decide +kernel) rfl ?_; apply r_op; exact rfl; exact rfl; apply a_assign; (conv => (lhs; whnf)); apply r_op; exact rfl; exact rfl; apply a_assign; (conv => (lhs; whnf)); apply r_op; exact rfl; exact rfl; apply a_assign; (conv => (lhs; whnf)); apply r_op; exact rfl; exact rfl; apply a_assign; (conv => (lhs; whnf))
  apply r_op; exact rfl; exact rfl; apply a_assign; (conv => (lhs; whnf)); (with_reducible refine runs_done ?_); refine W.ret ?_; show Q Exit.ret _ _; refine post_q hQ (by apply res_tmp; exact rfl; apply res_tmp; exact rfl; apply res_tmp; exact rfl; apply res_tmp; exact rfl; apply res_tmp; exact rfl; exact res_nil) (.inl rfl) (by exact .refl _) ?_; (conv => (lhs; whnf)); rotate_left; apply r_op
  exact rfl; exact want_t rfl rfl rfl (by assumption); apply a_move; (conv => (lhs; whnf)); apply r_op; exact rfl; exact want_t rfl rfl rfl (by assumption); apply g_index; exact a_indexS rfl rfl (by omega) (by assumption); apply r_op; exact rfl; exact want_t rfl rfl rfl (by assumption); apply g_binOp; exact a_binI rfl rfl rfl; apply r_op; exact rfl; exact rfl; apply g_pick
  apply a_pickF rfl (by assumption); (conv => (lhs; whnf)); apply r_op; exact rfl; exact rfl; apply a_move; (conv => (lhs; whnf)); refine q_split rfl rfl rfl (fun hg => ?_) (fun hg => ?_); apply q_skip; exact rfl; exact want_f rfl rfl rfl (by assumption); apply q_skip; exact rfl; exact want_f rfl rfl rfl (by assumption); apply q_skip; exact rfl; exact want_f rfl rfl rfl (by assumption); apply r_op
  exact rfl; exact rfl; apply g_pick; apply a_pickT rfl (by assumption); (conv => (lhs; whnf)); (with_reducible refine runs_done ?_); refine W.condT rfl (by exact rfl) ?_; refine W.seq ?_; refine W.regionL (by decide +kernel) rfl ?_; apply r_op; exact rfl; exact rfl; apply a_assign; (conv => (lhs; whnf)); apply r_op; exact rfl; exact rfl; apply a_assign; (conv => (lhs; whnf)); apply r_op; exact rfl
  exact rfl; apply a_assign; (conv => (lhs; whnf)); apply r_op; exact rfl; exact rfl; apply a_assign; (conv => (lhs; whnf)); apply r_op; exact rfl; exact rfl; apply a_assign; (conv => (lhs; whnf)); (with_reducible refine runs_done ?_); refine W.ret ?_; show Q Exit.ret _ _
  refine post_q hQ (by apply res_tmp; exact rfl; apply res_tmp; exact rfl; apply res_tmp; exact rfl; apply res_tmp; exact rfl; apply res_tmp; exact rfl; exact res_nil) (.inl rfl) (by exact .refl _) ?_; (conv => (lhs; whnf)); rotate_left; apply r_op; exact rfl; exact want_t rfl rfl rfl (by assumption); apply a_move; (conv => (lhs; whnf)); apply r_op; exact rfl
  exact want_t rfl rfl rfl (by assumption); apply g_index; exact a_indexS rfl rfl (by omega) (by assumption); apply r_op; exact rfl; exact want_t rfl rfl rfl (by assumption); apply g_binOp; exact a_binI rfl rfl rfl; apply r_op; exact rfl; exact rfl; apply g_pick; apply a_pickF rfl (by assumption); (conv => (lhs; whnf)); (with_reducible refine runs_done ?_)
  refine W.cond rfl (fun hc => ?_) (fun hc => ?_); refine W.seq ?_; refine W.regionL (by decide +kernel) rfl ?_; apply r_op; exact rfl; exact rfl; apply a_assign; (conv => (lhs; whnf)); apply r_op; exact rfl; exact rfl; apply a_assign; (conv => (lhs; whnf)); apply r_op; exact rfl; exact rfl; apply a_assign; (conv => (lhs; whnf)); apply r_op; exact rfl; exact rfl; apply a_assign
  (conv => (lhs; whnf)); apply r_op; exact rfl; exact rfl; apply a_assign; (conv => (lhs; whnf)); (with_reducible refine runs_done ?_); refine W.ret ?_; show Q Exit.ret _ _; refine post_q hQ (by apply res_tmp; exact rfl; apply res_tmp; exact rfl; apply res_tmp; exact rfl; apply res_tmp; exact rfl; apply res_tmp; exact rfl; exact res_nil) (.inl rfl) (by exact .refl _) ?_; (conv => (lhs; whnf))
  rotate_left; refine W.skip ?_; show W _ _ _ _ _ _ _; refine W.seq ?_; refine W.regionL (by decide +kernel) rfl ?_; apply r_op; exact rfl; exact rfl; apply a_move; (conv => (lhs; whnf)); apply r_op; exact rfl; exact rfl; apply g_index; exact a_indexS rfl rfl (by omega) (by assumption); apply r_op; exact rfl; exact rfl; apply g_binOp; exact a_u8sub rfl rfl; apply r_op; exact rfl; exact rfl
  apply g_convert; exact a_convI rfl; apply r_op; exact rfl; exact rfl; apply a_assign; (conv => (lhs; whnf)); (with_reducible refine runs_done ?_); refine W.seq ?_; refine W.regionL (by decide +kernel) rfl ?_; apply r_op; exact rfl; exact rfl; apply a_move; (conv => (lhs; whnf)); apply r_op; exact rfl; exact rfl; apply g_slice; exact a_sliceS rfl rfl rfl (by omega); apply r_callP; exact rfl
  exact rfl; exact rfl; exact rfl; exact rfl; infer_instance; exact hA1; apply r_op; exact rfl; exact rfl; apply a_move; (conv => (lhs; whnf)); apply r_op; exact rfl; exact rfl; apply g_extract; exact a_extract rfl rfl; apply r_op; exact rfl; exact rfl; apply g_extract; exact a_extract rfl rfl; apply r_op; exact rfl; exact rfl; apply a_assign; (conv => (lhs; whnf)); apply r_op; exact rfl; exact rfl
  apply a_assign; (conv => (lhs; whnf)); (with_reducible refine runs_done ?_); refine W.seq ?_; refine W.regionL (by decide +kernel) rfl ?_; apply r_op; exact rfl; exact rfl; apply a_move; (conv => (lhs; whnf)); apply r_op; exact rfl; exact rfl; apply g_slice; exact a_sliceS rfl rfl rfl (by omega); apply r_callP; exact rfl; exact rfl; exact rfl; exact rfl; exact rfl; infer_instance; exact hA2
  apply r_op; exact rfl; exact rfl; apply a_move; (conv => (lhs; whnf)); apply r_op; exact rfl; exact rfl; apply g_extract; exact a_extract rfl rfl; apply r_op; exact rfl; exact rfl; apply g_extract; exact a_extract rfl rfl; apply r_op; exact rfl; exact rfl; apply a_assign; (conv => (lhs; whnf)); apply r_op; exact rfl; exact rfl; apply a_assign; (conv => (lhs; whnf))
  (with_reducible refine runs_done ?_); refine W.seq ?_; refine W.seq ?_; refine W.regionL (by decide +kernel) rfl ?_; apply r_op; exact rfl; exact rfl; apply a_move; (conv => (lhs; whnf)); apply r_op; exact rfl; exact rfl; apply g_binOp; exact a_nilEn rfl rfl; apply r_op; exact rfl; exact rfl; apply a_move; (conv => (lhs; whnf)); refine q_split rfl rfl rfl (fun hg => ?_) (fun hg => ?_); apply q_skip
  exact rfl; exact want_f rfl rfl rfl (by assumption); apply q_skip; exact rfl; exact want_f rfl rfl rfl (by assumption); apply r_op; exact rfl; exact rfl; apply g_pick; apply a_pickT rfl (by assumption); (conv => (lhs; whnf)); apply r_op; exact rfl; exact rfl; apply a_move; (conv => (lhs; whnf)); apply q_skip; exact rfl; exact want_f rfl rfl rfl (by exact rfl); apply q_skip; exact rfl
  exact want_f rfl rfl rfl (by exact rfl); apply q_skip; exact rfl; exact want_f rfl rfl rfl (by exact rfl); apply q_skip; exact rfl; exact want_f rfl rfl rfl (by exact rfl); apply q_skip; exact rfl; exact want_f rfl rfl rfl (by exact rfl); apply q_skip; exact rfl; exact want_f rfl rfl rfl (by exact rfl); apply q_skip; exact rfl; exact want_f rfl rfl rfl (by exact rfl); apply q_skip; exact rfl
  exact want_f rfl rfl rfl (by exact rfl); apply r_op; exact rfl; exact rfl; apply g_pick; apply a_pickT rfl (by exact rfl); (conv => (lhs; whnf)); (with_reducible refine runs_done ?_); refine W.condT rfl (by exact rfl) ?_; refine W.seq ?_; refine W.regionL (by decide +kernel) rfl ?_; apply r_op; exact rfl; exact rfl; apply a_assign; (conv => (lhs; whnf)); apply r_op; exact rfl; exact rfl
  apply a_assign; (conv => (lhs; whnf)); apply r_op; exact rfl; exact rfl; apply a_assign; (conv => (lhs; whnf)); apply r_op; exact rfl; exact rfl; apply a_assign; (conv => (lhs; whnf)); apply r_op; exact rfl; exact rfl; apply a_assign; (conv => (lhs; whnf)); (with_reducible refine runs_done ?_); refine W.ret ?_; show Q Exit.ret _ _
  refine post_q hQ (by apply res_tmp; exact rfl; apply res_tmp; exact rfl; apply res_tmp; exact rfl; apply res_tmp; exact rfl; apply res_tmp; exact rfl; exact res_nil) (.inl rfl) (by exact .refl _) ?_; (conv => (lhs; whnf)); rotate_left; apply r_op; exact rfl; exact want_t rfl rfl rfl (by assumption); apply a_move; (conv => (lhs; whnf)); apply r_op; exact rfl
  exact want_t rfl rfl rfl (by assumption); apply g_binOp; exact a_nilEn rfl rfl; apply r_op; exact rfl; exact rfl; apply g_pick; apply a_pickF rfl (by assumption); (conv => (lhs; whnf)); apply r_op; exact rfl; exact rfl; apply a_move; (conv => (lhs; whnf)); refine q_split rfl rfl rfl (fun hg => ?_) (fun hg => ?_); apply q_skip; exact rfl; exact want_f rfl rfl rfl (by assumption); apply q_skip
  exact rfl; exact want_f rfl rfl rfl (by assumption); apply q_skip; exact rfl; exact want_f rfl rfl rfl (by assumption); apply q_skip; exact rfl; exact want_f rfl rfl rfl (by assumption); apply q_skip; exact rfl; exact want_f rfl rfl rfl (by assumption); apply q_skip; exact rfl; exact want_f rfl rfl rfl (by assumption); apply q_skip; exact rfl; exact want_f rfl rfl rfl (by assumption)
  apply q_skip; exact rfl; exact want_f rfl rfl rfl (by assumption); apply r_op; exact rfl; exact rfl; apply g_pick; apply a_pickT rfl (by assumption); (conv => (lhs; whnf)); (with_reducible refine runs_done ?_); refine W.condT rfl (by exact rfl) ?_; refine W.seq ?_; refine W.regionL (by decide +kernel) rfl ?_; apply r_op; exact rfl; exact rfl; apply a_assign; (conv => (lhs; whnf)); apply r_op
  exact rfl; exact rfl; apply a_assign; (conv => (lhs; whnf)); apply r_op; exact rfl; exact rfl; apply a_assign; (conv => (lhs; whnf)); apply r_op; exact rfl; exact rfl; apply a_assign; (conv => (lhs; whnf)); apply r_op; exact rfl; exact rfl; apply a_assign; (conv => (lhs; whnf)); (with_reducible refine runs_done ?_); refine W.ret ?_; show Q Exit.ret _ _
  refine post_q hQ (by apply res_tmp; exact rfl; apply res_tmp; exact rfl; apply res_tmp; exact rfl; apply res_tmp; exact rfl; apply res_tmp; exact rfl; exact res_nil) (.inl rfl) (by exact .refl _) ?_; (conv => (lhs; whnf)); rotate_left; apply r_op; exact rfl; exact want_t rfl rfl rfl (by assumption); apply a_move; (conv => (lhs; whnf)); apply r_op; exact rfl
  exact want_t rfl rfl rfl (by assumption); apply a_move; (conv => (lhs; whnf)); apply r_op; exact rfl; exact want_t rfl rfl rfl (by assumption); apply g_index; exact a_indexS rfl rfl (by omega) (by assumption); apply r_op; exact rfl; exact want_t rfl rfl rfl (by assumption); apply a_move; (conv => (lhs; whnf)); apply r_op; exact rfl; exact want_t rfl rfl rfl (by assumption); apply a_move
  (conv => (lhs; whnf)); apply r_callP; exact rfl; exact rfl; exact want_t rfl rfl rfl (by assumption); exact rfl; exact rfl; infer_instance; exact hK ⟨Int.ofNat_le.1 (Int.not_lt.1 (of_decide_eq_false (by assumption))), Int.ofNat_le.1 (Int.not_lt.1 (of_decide_eq_false (by assumption)))⟩; apply r_op; exact rfl; exact want_t rfl rfl rfl (by assumption); apply a_move; (conv => (lhs; whnf)); apply r_op
  exact rfl; exact want_t rfl rfl rfl (by assumption); apply g_binOp; exact a_binS rfl rfl rfl rfl; apply r_op; exact rfl; exact rfl; apply g_pick; apply a_pickF rfl (by assumption); (conv => (lhs; whnf)); (with_reducible refine runs_done ?_); refine W.cond rfl (fun hc => ?_) (fun hc => ?_); refine W.seq ?_; refine W.regionL (by decide +kernel) rfl ?_; apply r_op; exact rfl; exact rfl; apply a_assign
  (conv => (lhs; whnf)); apply r_op; exact rfl; exact rfl; apply a_assign; (conv => (lhs; whnf)); apply r_op; exact rfl; exact rfl; apply a_assign; (conv => (lhs; whnf)); apply r_op; exact rfl; exact rfl; apply a_assign; (conv => (lhs; whnf)); apply r_op; exact rfl; exact rfl; apply a_assign; (conv => (lhs; whnf)); (with_reducible refine runs_done ?_); refine W.ret ?_; show Q Exit.ret _ _
  refine post_q hQ (by apply res_tmp; exact rfl; apply res_tmp; exact rfl; apply res_tmp; exact rfl; apply res_tmp; exact rfl; apply res_tmp; exact rfl; exact res_nil) (.inl rfl) (by exact .refl _) ?_; (conv => (lhs; whnf)); rotate_left; refine W.skip ?_; show W _ _ _ _ _ _ _; refine W.seq ?_; refine W.regionDK 1 [] Ty.mixed (by decide +kernel) (by decide +kernel) rfl ?_; apply r_op; exact rfl
  exact rfl; apply a_move; (conv => (lhs; whnf)); apply r_op; exact rfl; exact rfl; apply a_move; (conv => (lhs; whnf)); apply r_op; exact rfl; exact rfl; apply g_index; exact a_indexS rfl rfl (by omega) (by assumption); apply r_op; exact rfl; exact rfl; apply a_move; (conv => (lhs; whnf)); apply r_op; exact rfl; exact rfl; apply a_move; (conv => (lhs; whnf)); apply r_op; exact rfl; exact rfl
  apply a_assign; (conv => (lhs; whnf)); apply r_op; exact rfl; exact rfl; apply a_assign; (conv => (lhs; whnf)); apply r_op; exact rfl; exact rfl; apply a_assign; (conv => (lhs; whnf)); apply r_op; exact rfl; exact rfl; apply a_assign; (conv => (lhs; whnf)); apply r_op; exact rfl; exact rfl; apply a_assign; (conv => (lhs; whnf)); (with_reducible refine runs_done ?_); refine W.ret ?_
  show Q Exit.ret _ _; refine post_q hQ (by apply res_tmp; exact rfl; apply res_tmp; exact rfl; apply res_tmp; exact rfl; apply res_tmp; exact rfl; apply res_tmp; exact rfl; exact res_nil) (.inl rfl) (by exact .refl _) ?_; (conv => (lhs; whnf)); rotate_left
  · have hn : parts k = .none := by rw [hp, if_neg (fun h => by have := of_decide_eq_true hg; omega)]
    rw [hn]; rfl
  · have hn : parts k = .none := by rw [hp, if_neg (fun h => by have := of_decide_eq_true hg; omega)]
    rw [hn]; rfl
  · have hn : parts k = .none := by rw [hp, if_neg (fun h => by have := of_decide_eq_true hg; omega)]
    rw [hn]; rfl
  · have hn : parts k = .none := by rw [hp, if_neg (fun h => by have := of_decide_eq_true hc; omega)]
    rw [hn]; rfl
  · have hn : parts k = .none := by
      rw [hp]; split <;> first | rfl | (rw [if_neg]; intro h; rw [h.1] at hg; cases hg)
    rw [hn]; rfl
  · have hn : parts k = .none := by
      rw [hp]; split <;> first | rfl | (rw [if_neg]; intro h; rw [h.2.1] at hg; cases hg)
    rw [hn]; rfl
  · have hn : parts k = .none := by
      rw [hp]; split <;> first | rfl | (rw [if_neg]; intro h; simp [h.2.2] at hc)
    rw [hn]; rfl
  · have h48 : 48 ≤ c0.toNat ∧ c0.toNat ≤ 57 := ⟨Int.ofNat_le.1 (Int.not_lt.1 (of_decide_eq_false (by assumption))), Int.ofNat_le.1 (Int.not_lt.1 (of_decide_eq_false (by assumption)))⟩
    have h97 : 97 ≤ t.toNat ∧ t.toNat ≤ 122 := ⟨Int.ofNat_le.1 (Int.not_lt.1 (of_decide_eq_false (by assumption))), Int.ofNat_le.1 (Int.not_lt.1 (of_decide_eq_false (by assumption)))⟩
    have hba : ba = true := by simpa using ‹(!ba) = false›
    have hbb : bb = true := by simpa using ‹(!bb) = false›
    have hn : parts k = ⟨c0.toNat - 48, t, a, b, true⟩ := by
      rw [hp, if_pos ⟨h0, h48, h97⟩, if_pos ⟨hba, hbb, by simpa using hc⟩]
    rw [hn, ePts, ← sub48 h48]; rfl
theorem partsR_any (w0 : World) (hL : Laid w0) (k : List UInt8) (hk : k.length ≤ 1000000) : CallP Tryd.prog w0 21 [.str k] (ePts (parts k)) := by
  rw [← partsR_eq]
  refine CallP.start Tryd.func21 rfl Tryd.ntmps21 (by simp) fun σ Q hQ => ?_
  by_cases h0 : ¬ k.length = 22
  · have d0 : (!decide (((k.length : Nat) : Int) = 22)) = true := by simp; omega
    rw [partsR, if_neg (fun h => h0 h.1)] at hQ
    refine W.seq ?_; refine W.regionL (by decide +kernel) rfl ?_; apply r_op; exact rfl; exact rfl; apply a_assign; (conv => (lhs; whnf)); apply r_op; exact rfl; exact rfl; apply a_assign; (conv => (lhs; whnf)); apply r_op; exact rfl; exact rfl; apply a_assign; (conv => (lhs; whnf)); apply r_op; exact rfl; exact rfl; apply a_assign; (conv => (lhs; whnf)); apply r_op; exact rfl; exact rfl
    apply a_assign; (conv => (lhs; whnf)); (with_reducible refine runs_done ?_); refine W.seq ?_; refine W.seq ?_; refine W.regionL (by decide +kernel) rfl ?_; apply r_op; exact rfl; exact rfl; apply a_move; (conv => (lhs; whnf)); apply r_op; exact rfl; exact rfl; apply g_call; exact a_len_str rfl; apply r_op; exact rfl; exact rfl; apply g_binOp; exact a_binI rfl rfl rfl; apply r_op; exact rfl
    exact rfl; apply a_move; (conv => (lhs; whnf)); apply q_skip; exact rfl; exact want_f rfl rfl rfl (by assumption); apply q_skip; exact rfl; exact want_f rfl rfl rfl (by assumption); apply q_skip; exact rfl; exact want_f rfl rfl rfl (by assumption); apply r_op; exact rfl; exact rfl; apply g_pick; apply a_pickT rfl (by assumption); (conv => (lhs; whnf)); apply r_op; exact rfl; exact rfl
    apply a_move; (conv => (lhs; whnf)); apply q_skip; exact rfl; exact want_f rfl rfl rfl (by exact rfl); apply q_skip; exact rfl; exact want_f rfl rfl rfl (by exact rfl); apply q_skip; exact rfl; exact want_f rfl rfl rfl (by exact rfl); apply r_op; exact rfl; exact rfl; apply g_pick; apply a_pickT rfl (by exact rfl); (conv => (lhs; whnf)); (with_reducible refine runs_done ?_)
    refine W.condT rfl (by exact rfl) ?_; refine W.seq ?_; refine W.regionL (by decide +kernel) rfl ?_; apply r_op; exact rfl; exact rfl; apply a_assign; (conv => (lhs; whnf)); apply r_op; exact rfl; exact rfl; apply a_assign; (conv => (lhs; whnf)); apply r_op; exact rfl; exact rfl; apply a_assign; (conv => (lhs; whnf)); apply r_op; exact rfl; exact rfl; apply a_assign; (conv => (lhs; whnf))
    apply r_op; exact rfl; exact rfl; apply a_assign; (conv => (lhs; whnf)); (with_reducible refine runs_done ?_); refine W.ret ?_; show Q Exit.ret _ _; refine post_q hQ (by apply res_tmp; exact rfl; apply res_tmp; exact rfl; apply res_tmp; exact rfl; apply res_tmp; exact rfl; apply res_tmp; exact rfl; exact res_nil) (.inl rfl) (by exact .refl _) ?_; (conv => (lhs; whnf)); rfl
  have h0 := Decidable.of_not_not h0
  have d0 : (!decide (((k.length : Nat) : Int) = 22)) = false := by simp [h0]
  have g1 : k[(1 : Int).toNat]? = some (k.getD 1 0) := getD_get (by omega)
  have hA0 := goAtoi_any w0 hL ((k.take (1 : Int).toNat).drop (0 : Int).toNat) (by simp; omega)
  have hA1 := goAtoi_any w0 hL ((k.take (12 : Int).toNat).drop (2 : Int).toNat) (by simp; omega)
  have hA2 := goAtoi_any w0 hL ((k.take ((k.length : Nat) : Int).toNat).drop (12 : Int).toNat) (by simp; omega)
  have e0 : k.take 1 = (k.take (1 : Int).toNat).drop (0 : Int).toNat := rfl
  have e1 : (k.take 12).drop 2 = (k.take (12 : Int).toNat).drop (2 : Int).toNat := rfl
  have e2 : k.drop 12 = (k.take ((k.length : Nat) : Int).toNat).drop (12 : Int).toNat := by rw [Int.toNat_natCast, List.take_length]; rfl
  have hp : partsR k = if k.length = 22 ∧ (97 ≤ (k.getD 1 0).toNat ∧ (k.getD 1 0).toNat ≤ 122) then _ else _ := rfl
  rw [e0, e1, e2] at hp
  generalize k.getD 1 0 = t at g1 hp
  obtain ⟨n, hn, en, _⟩ : ∃ n : Nat, n < 10 ∧ (goAtoi ((k.take (1 : Int).toNat).drop (0 : Int).toNat)).1 = n ∧ True := by
    cases k with
    | nil => simp at h0
    | cons c k' =>
      obtain ⟨n, h1, h2, _⟩ := digit0 [] c
      exact ⟨n, h1, h2, trivial⟩
  generalize goAtoi ((k.take (1 : Int).toNat).drop (0 : Int).toNat) = A0 at hA0 hp en
  generalize goAtoi ((k.take (12 : Int).toNat).drop (2 : Int).toNat) = A1 at hA1 hp
  generalize goAtoi ((k.take ((k.length : Nat) : Int).toNat).drop (12 : Int).toNat) = A2 at hA2 hp
  obtain ⟨v, bv⟩ := A0
  obtain ⟨a, ba⟩ := A1
  obtain ⟨b, bb⟩ := A2
  dsimp only at hA0 hA1 hA2 hp en
  subst en
  rw [Int.toNat_natCast] at hp
  have hK := keyR_any w0 hL n hn t a b
  have dn : decide (((n : Nat) : Int) < 0) = false := decide_eq_false (by omega)
  clear e0 e1 e2; refine W.seq ?_; refine W.regionL (by decide +kernel) rfl ?_; apply r_op; exact rfl; exact rfl; apply a_assign; (conv => (lhs; whnf)); apply r_op; exact rfl; exact rfl; apply a_assign; (conv => (lhs; whnf)); apply r_op; exact rfl; exact rfl; apply a_assign; (conv => (lhs; whnf)); apply r_op; exact rfl; exact rfl; apply a_assign; (conv => (lhs; whnf)); apply r_op; exact rfl
  exact rfl; apply a_assign; (conv => (lhs; whnf)); (with_reducible refine runs_done ?_); refine W.seq ?_; refine W.seq ?_; refine W.regionL (by decide +kernel) rfl ?_; apply r_op; exact rfl; exact rfl; apply a_move; (conv => (lhs; whnf)); apply r_op; exact rfl; exact rfl; apply g_call; exact a_len_str rfl; apply r_op; exact rfl; exact rfl; apply g_binOp; exact a_binI rfl rfl rfl; apply r_op
  exact rfl; exact rfl; apply a_move; (conv => (lhs; whnf)); apply r_op; exact rfl; exact want_t rfl rfl rfl (by assumption); apply a_move; (conv => (lhs; whnf)); apply r_op; exact rfl; exact want_t rfl rfl rfl (by assumption); apply g_index; exact a_indexS rfl rfl (by omega) (by assumption); apply r_op; exact rfl; exact want_t rfl rfl rfl (by assumption); apply g_binOp; exact a_binI rfl rfl rfl
  apply r_op; exact rfl; exact rfl; apply g_pick; apply a_pickF rfl (by assumption); (conv => (lhs; whnf)); apply r_op; exact rfl; exact rfl; apply a_move; (conv => (lhs; whnf)); refine q_split rfl rfl rfl (fun hg => ?_) (fun hg => ?_); apply q_skip; exact rfl; exact want_f rfl rfl rfl (by assumption); apply q_skip; exact rfl; exact want_f rfl rfl rfl (by assumption); apply q_skip; exact rfl
  exact want_f rfl rfl rfl (by assumption); apply r_op; exact rfl; exact rfl; apply g_pick; apply a_pickT rfl (by assumption); (conv => (lhs; whnf)); (with_reducible refine runs_done ?_); refine W.condT rfl (by exact rfl) ?_; refine W.seq ?_; refine W.regionL (by decide +kernel) rfl ?_; apply r_op; exact rfl; exact rfl; apply a_assign; (conv => (lhs; whnf)); apply r_op; exact rfl; exact rfl
  apply a_assign; (conv => (lhs; whnf)); apply r_op; exact rfl; exact rfl; apply a_assign; (conv => (lhs; whnf)); apply r_op; exact rfl; exact rfl; apply a_assign; (conv => (lhs; whnf)); apply r_op; exact rfl; exact rfl; apply a_assign; (conv => (lhs; whnf)); (with_reducible refine runs_done ?_); refine W.ret ?_; show Q Exit.ret _ _
  refine post_q hQ (by apply res_tmp; exact rfl; apply res_tmp; exact rfl; apply res_tmp; exact rfl; apply res_tmp; exact rfl; apply res_tmp; exact rfl; exact res_nil) (.inl rfl) (by exact .refl _) ?_; (conv => (lhs; whnf)); rotate_left; apply r_op; exact rfl; exact want_t rfl rfl rfl (by assumption); apply a_move; (conv => (lhs; whnf)); apply r_op; exact rfl
  exact want_t rfl rfl rfl (by assumption); apply g_index; exact a_indexS rfl rfl (by omega) (by assumption); apply r_op; exact rfl; exact want_t rfl rfl rfl (by assumption); apply g_binOp; exact a_binI rfl rfl rfl; apply r_op; exact rfl; exact rfl; apply g_pick; apply a_pickF rfl (by assumption); (conv => (lhs; whnf)); (with_reducible refine runs_done ?_)
  refine W.cond rfl (fun hc => ?_) (fun hc => ?_); refine W.seq ?_; refine W.regionL (by decide +kernel) rfl ?_; apply r_op; exact rfl; exact rfl; apply a_assign; (conv => (lhs; whnf)); apply r_op; exact rfl; exact rfl; apply a_assign; (conv => (lhs; whnf)); apply r_op; exact rfl; exact rfl; apply a_assign; (conv => (lhs; whnf)); apply r_op; exact rfl; exact rfl; apply a_assign
  (conv => (lhs; whnf)); apply r_op; exact rfl; exact rfl; apply a_assign; (conv => (lhs; whnf)); (with_reducible refine runs_done ?_); refine W.ret ?_; show Q Exit.ret _ _; refine post_q hQ (by apply res_tmp; exact rfl; apply res_tmp; exact rfl; apply res_tmp; exact rfl; apply res_tmp; exact rfl; apply res_tmp; exact rfl; exact res_nil) (.inl rfl) (by exact .refl _) ?_; (conv => (lhs; whnf))
  rotate_left; refine W.skip ?_; show W _ _ _ _ _ _ _; refine W.seq ?_; refine W.regionL (by decide +kernel) rfl ?_; apply r_op; exact rfl; exact rfl; apply a_move; (conv => (lhs; whnf)); apply r_op; exact rfl; exact rfl; apply g_slice; exact a_sliceS rfl rfl rfl (by omega); apply r_callP; exact rfl; exact rfl; exact rfl; exact rfl; exact rfl; infer_instance; exact hA0; apply r_op; exact rfl
  exact rfl; apply a_move; (conv => (lhs; whnf)); apply r_op; exact rfl; exact rfl; apply g_extract; exact a_extract rfl rfl; apply r_op; exact rfl; exact rfl; apply g_extract; exact a_extract rfl rfl; apply r_op; exact rfl; exact rfl; apply a_assign; (conv => (lhs; whnf)); apply r_op; exact rfl; exact rfl; apply a_assign; (conv => (lhs; whnf)); (with_reducible refine runs_done ?_); refine W.seq ?_
  refine W.regionL (by decide +kernel) rfl ?_; apply r_op; exact rfl; exact rfl; apply a_move; (conv => (lhs; whnf)); apply r_op; exact rfl; exact rfl; apply g_slice; exact a_sliceS rfl rfl rfl (by omega); apply r_callP; exact rfl; exact rfl; exact rfl; exact rfl; exact rfl; infer_instance; exact hA1; apply r_op; exact rfl; exact rfl; apply a_move; (conv => (lhs; whnf)); apply r_op; exact rfl
  exact rfl; apply g_extract; exact a_extract rfl rfl; apply r_op; exact rfl; exact rfl; apply g_extract; exact a_extract rfl rfl; apply r_op; exact rfl; exact rfl; apply a_assign; (conv => (lhs; whnf)); apply r_op; exact rfl; exact rfl; apply a_assign; (conv => (lhs; whnf)); (with_reducible refine runs_done ?_); refine W.seq ?_; refine W.regionL (by decide +kernel) rfl ?_; apply r_op; exact rfl
  exact rfl; apply a_move; (conv => (lhs; whnf)); apply r_op; exact rfl; exact rfl; apply g_slice; exact a_sliceS rfl rfl rfl (by omega); apply r_callP; exact rfl; exact rfl; exact rfl; exact rfl; exact rfl; infer_instance; exact hA2; apply r_op; exact rfl; exact rfl; apply a_move; (conv => (lhs; whnf)); apply r_op; exact rfl; exact rfl; apply g_extract; exact a_extract rfl rfl; apply r_op
  exact rfl; exact rfl; apply g_extract; exact a_extract rfl rfl; apply r_op; exact rfl; exact rfl; apply a_assign; (conv => (lhs; whnf)); apply r_op; exact rfl; exact rfl; apply a_assign; (conv => (lhs; whnf)); (with_reducible refine runs_done ?_); refine W.seq ?_; refine W.seq ?_; refine W.regionL (by decide +kernel) rfl ?_; apply r_op; exact rfl; exact rfl; apply a_move; (conv => (lhs; whnf))
  apply r_op; exact rfl; exact rfl; apply g_binOp; exact a_binI rfl rfl rfl; apply r_op; exact rfl; exact rfl; apply a_move; (conv => (lhs; whnf)); apply r_op; exact rfl; exact rfl; apply a_move; (conv => (lhs; whnf)); apply r_op; exact rfl; exact rfl; apply a_move; (conv => (lhs; whnf)); apply r_op; exact rfl; exact rfl; apply g_index; exact a_indexS rfl rfl (by omega) (by assumption); apply r_op
  exact rfl; exact rfl; apply a_move; (conv => (lhs; whnf)); apply r_op; exact rfl; exact rfl; apply a_move; (conv => (lhs; whnf)); apply r_callP; exact rfl; exact rfl; exact rfl; exact rfl; exact rfl; infer_instance; exact hK; apply r_op; exact rfl; exact rfl; apply a_move; (conv => (lhs; whnf)); apply r_op; exact rfl; exact rfl; apply g_binOp; exact a_binS rfl rfl rfl rfl; apply r_op; exact rfl
  exact rfl; apply g_pick; apply a_pickF rfl (by exact rfl); (conv => (lhs; whnf)); (with_reducible refine runs_done ?_); refine W.cond rfl (fun hc => ?_) (fun hc => ?_); refine W.seq ?_; refine W.regionL (by decide +kernel) rfl ?_; apply r_op; exact rfl; exact rfl; apply a_assign; (conv => (lhs; whnf)); apply r_op; exact rfl; exact rfl; apply a_assign; (conv => (lhs; whnf)); apply r_op; exact rfl
  exact rfl; apply a_assign; (conv => (lhs; whnf)); apply r_op; exact rfl; exact rfl; apply a_assign; (conv => (lhs; whnf)); apply r_op; exact rfl; exact rfl; apply a_assign; (conv => (lhs; whnf)); (with_reducible refine runs_done ?_); refine W.ret ?_; show Q Exit.ret _ _
  refine post_q hQ (by apply res_tmp; exact rfl; apply res_tmp; exact rfl; apply res_tmp; exact rfl; apply res_tmp; exact rfl; apply res_tmp; exact rfl; exact res_nil) (.inl rfl) (by exact .refl _) ?_; (conv => (lhs; whnf)); rotate_left; refine W.skip ?_; show W _ _ _ _ _ _ _; refine W.seq ?_; refine W.regionDK 1 [] Ty.mixed (by decide +kernel) (by decide +kernel) rfl ?_; apply r_op; exact rfl
  exact rfl; apply a_move; (conv => (lhs; whnf)); apply r_op; exact rfl; exact rfl; apply a_move; (conv => (lhs; whnf)); apply r_op; exact rfl; exact rfl; apply g_index; exact a_indexS rfl rfl (by omega) (by assumption); apply r_op; exact rfl; exact rfl; apply a_move; (conv => (lhs; whnf)); apply r_op; exact rfl; exact rfl; apply a_move; (conv => (lhs; whnf)); apply r_op; exact rfl; exact rfl
  apply a_assign; (conv => (lhs; whnf)); apply r_op; exact rfl; exact rfl; apply a_assign; (conv => (lhs; whnf)); apply r_op; exact rfl; exact rfl; apply a_assign; (conv => (lhs; whnf)); apply r_op; exact rfl; exact rfl; apply a_assign; (conv => (lhs; whnf)); apply r_op; exact rfl; exact rfl; apply a_assign; (conv => (lhs; whnf)); (with_reducible refine runs_done ?_); refine W.ret ?_
  show Q Exit.ret _ _; refine post_q hQ (by apply res_tmp; exact rfl; apply res_tmp; exact rfl; apply res_tmp; exact rfl; apply res_tmp; exact rfl; apply res_tmp; exact rfl; exact res_nil) (.inl rfl) (by exact .refl _) ?_; (conv => (lhs; whnf)); rotate_left
  · have hx : partsR k = .none := by rw [hp, if_neg (fun h => by have := of_decide_eq_true hg; omega)]
    rw [hx]; rfl
  · have hx : partsR k = .none := by rw [hp, if_neg (fun h => by have := of_decide_eq_true hc; omega)]
    rw [hx]; rfl
  · have hx : partsR k = .none := by
      rw [hp]; split <;> first | rfl | (rw [if_neg]; intro h; simp [h] at hc)
    rw [hx]; rfl
  · have h97 : 97 ≤ t.toNat ∧ t.toNat ≤ 122 := ⟨Int.ofNat_le.1 (Int.not_lt.1 (of_decide_eq_false (by assumption))), Int.ofNat_le.1 (Int.not_lt.1 (of_decide_eq_false (by assumption)))⟩
    have hx : partsR k = ⟨n, t, a, b, true⟩ := by
      rw [hp, if_pos ⟨h0, h97⟩, if_pos (by simpa using hc)]
    rw [hx]; rfl
end Go.Proofs.YtkbmkhhcppfcnaaDoor
end
section
set_option linter.unusedVariables false
set_option linter.unusedSimpArgs false
set_option maxRecDepth 100000
set_option maxHeartbeats 1000000
namespace Go.Proofs.YtkbmkhhcppfcnaaDoor
open Go.Al Go.RowKit
theorem eqRows2_any (w0 : World) (a b : List Row) (ta tb : Tok) (ha : a.length ≤ 1000000000) : CallP Tryd.prog w0 49 [.slc 2 (a.map eRow) ta, .slc 2 (b.map eRow) tb, .fn (.func 81) [] []] (.bool (decide (a = b))) := by
  refine CallP.x Ty.tok Ty.mixed Tryd.func49 rfl Tryd.ntmps49 rfl (by simp) (by decide +kernel) fun σ => ?_
  (conv => whnf)
  skip
  (refine SIf.x Ty.mixed (fun hc => ?_) (fun hc => ?_) <;> (conv => whnf))
  · skip
    refine .p (.refl _) ?_
    have : ¬ a = b := by rintro rfl; simp at hc
    simp [this]
  · have hlen : a.length = b.length := by simp at hc; omega
    clear hc
    skip
    refine SLoop.by Ty.mixed (fun i => a.length - i) (fun i => [(1, .slc 2 (b.map eRow) .no), (2, .fn (.func 81) [] []), (15, .slc 2 (a.map eRow) .no), (16, .int .i64 a.length), (17, .int .i64 i)]) (fun _ => []) (fun i s => i ≤ a.length ∧ St.Le σ s ∧ a.take i = b.take i) 0 ⟨?_, BSub.none _, Nat.zero_le _, by repeat (first | assumption | exact .refl _ | refine le_setBox ?_ (by first | assumption | exact none_in (by assumption) | exact none_in (none_in (by assumption)) | exact none_in (none_in (none_in (by assumption))) | fail) | exact Moves.le (by assumption) | refine .trans ?_ (Moves.le (by assumption))), by simp⟩ ?_
    · show xWeak [(1, .slc 2 (b.map eRow) .no), (2, .fn (.func 81) [] []), (15, .slc 2 (a.map eRow) .no), (16, .int .i64 a.length), (17, .int .i64 (0 : Nat))] _
      rw [List.length_map]
      repeat (first | exact trivial | refine ⟨by first | trivial | exact Weak.refl _ | exact Weak.tok _ _ _ | exact Weak.of_eq (congrArg (AV.int _) (by omega)) | exact Weak.of_eq (congrArg AV.bool (by fail)) | exact Weak.nils _ _ (.inr rfl), ?_⟩)
    rintro i s ⟨hi, hle, htk⟩; (conv => whnf)
    skip
    (refine SIf.x Ty.mixed (fun hc => ?_) (fun hc => ?_) <;> (conv => whnf))
    · have hlt : i < a.length := by simp at hc; omega
      have ga : a[i]? = some a[i] := by simp [hlt]
      have gb : b[i]? = some (b[i]'(by omega)) := List.getElem?_eq_getElem (by omega)
      have ht := take_succ_iff hlt (show i < b.length by omega) htk
      generalize a[i] = x at ga ht
      generalize b[i]'(by omega) = y at gb ht
      clear hc
      refine ⟨_, ⟨by first | omega | (simp only [List.length_cons, List.length_append, List.length_nil, List.length_map, length_aBytes, List.length_replicate, List.length_range]; omega) | fail, by first | exact get_map ga | exact get_map gb | fail⟩, ?_⟩
      (conv => whnf); intro b1 hb1; (conv => whnf); refine SStore.on 0 rfl ?_; (conv => whnf)
      refine ⟨_, ⟨by first | omega | (simp only [List.length_cons, List.length_append, List.length_nil, List.length_map, length_aBytes, List.length_replicate, List.length_range]; omega) | fail, by first | exact get_map ga | exact get_map gb | fail⟩, ?_⟩
      (conv => whnf); intro b1 hb1; (conv => whnf); refine SStore.on 0 rfl ?_; (conv => whnf); refine SLoad.on 1 rfl ?_; (conv => whnf); refine SLoad.on 0 rfl ?_; (conv => whnf); refine SCall.p (by exact same2_any w0 _ _) ?_; (conv => whnf)
      (refine SIf.x Ty.mixed (fun hc => ?_) (fun hc => ?_) <;> (conv => whnf))
      · skip
        refine .p (by repeat (first | assumption | exact .refl _ | refine le_new2 ?_ (by assumption) | refine le_new ?_ (by assumption) | refine le_setBox ?_ (by first | assumption | exact none_in (by assumption) | exact none_in (none_in (by assumption)) | exact none_in (none_in (none_in (by assumption))) | fail) | exact Moves.le (by assumption) | refine .trans ?_ (Moves.le (by assumption)))) ?_
        have : ¬ a = b := fun e => by subst e; rw [ga] at gb; cases gb; simp at hc
        simp [this]
      · have hxy : x = y := by simpa using hc
        refine ⟨_, IntWalk.i64_in _ (by omega), ?_⟩; (conv => whnf)
        exact ⟨i + 1, by omega, by repeat (first | exact trivial | refine ⟨by first | trivial | exact Weak.refl _ | exact Weak.tok _ _ _ | exact Weak.of_eq (congrArg (AV.int _) (by omega)) | exact Weak.of_eq (congrArg AV.bool (by fail)) | exact Weak.nils _ _ (.inr rfl), ?_⟩), BSub.none _, by omega, by repeat (first | assumption | exact .refl _ | refine le_new2 ?_ (by assumption) | refine le_new ?_ (by assumption) | refine le_setBox ?_ (by first | assumption | exact none_in (by assumption) | exact none_in (none_in (by assumption)) | exact none_in (none_in (none_in (by assumption))) | fail) | exact Moves.le (by assumption) | refine .trans ?_ (Moves.le (by assumption))), ht.2 hxy⟩
    · have hge : i = a.length := by simp at hc; omega
      skip
      refine .p (by repeat (first | assumption | exact .refl _ | refine le_new2 ?_ (by assumption) | refine le_new ?_ (by assumption) | refine le_setBox ?_ (by first | assumption | exact none_in (by assumption) | exact none_in (none_in (by assumption)) | exact none_in (none_in (none_in (by assumption))) | fail) | exact Moves.le (by assumption) | refine .trans ?_ (Moves.le (by assumption)))) ?_
      have : a = b := by rw [hge, List.take_length, hlen, List.take_length] at htk; exact htk
      simp [this]
theorem XAt.know {τ s : St} {bx : Nat} {x : Sub} {ac qv : AV} {ra rq : Option Nat} (h : XAt τ s bx x ac qv ra rq) {B : BL} (hB : Know τ B) : Know s ((bx, xc x ac qv) :: B) := ⟨fun p hp => by
  rcases List.mem_cons.1 hp with rfl | hp
  · exact h.hbx
  · exact h.le.box _ _ (hB.has p hp), by
  rw [List.map_cons, List.nodup_cons]
  refine ⟨fun hm => ?_, hB.nd⟩
  obtain ⟨p, hp, e⟩ := List.mem_map.1 hm
  have := hB.has p hp
  rw [e, h.bxn] at this; cases this⟩
theorem ints_one (l : List Int) : ∀ x ∈ l.map (AV.int .i64), x.cells.length = 1 ∧ ∀ c ∈ x.cells, c.one = true := fun x hx => by
  obtain ⟨n, _, rfl⟩ := List.mem_map.1 hx; exact ⟨rfl, fun c hc => by simp [AV.cells] at hc; subst hc; rfl⟩
theorem msgs_one (l : List Msg) : ∀ x ∈ l.map eMsg, x.cells.length = 8 ∧ ∀ c ∈ x.cells, c.one = true := fun x hx => by
  obtain ⟨n, _, rfl⟩ := List.mem_map.1 hx; exact ⟨rfl, fun c hc => by simp [AV.cells, eMsg] at hc; rcases hc with rfl | rfl | rfl | rfl | rfl | rfl | rfl | rfl <;> rfl⟩
theorem XAt.seal {τ σ : St} {bx : Nat} {x : Sub} {ac qv : AV} {ra rq : Option Nat} (h : XAt τ σ bx x ac qv ra rq) {P : Program} {w0 : World} {f : FuncId} {args : List AV} {K : AV → St → Prop} (hk : ∀ s, St.Le τ s → s.box bx = some (xc x (eInts x.acks) (eMsgs x.queue)) → CallW P w0 f args s K) : CallW P w0 f args σ K := by
  have step1 : ∀ σ1, St.Le τ σ1 → σ1.box bx = some (xc x (eInts x.acks) qv) → RowV σ1 8 (x.queue.map eMsg) qv rq → CallW P w0 f args σ1 K := by
    intro σ1 hl hb hq
    cases hq with
    | nil h0 =>
      refine CallW.sealNil (sz := 8) (pre := [.int .i64 x.id, .str x.name, .str x.topic, .str x.want, .int .i64 x.lease, .int .i64 x.most, .int .i64 x.floor, eInts x.acks]) (post := [.str x.note]) hb (hk _ (le_setBox hl h.bxn) ?_)
      rw [setBox_same, eMsgs, h0]; rfl
    | own b cap junk hbb hc hl2 =>
      refine CallW.seal (sz := 8) (pre := [.int .i64 x.id, .str x.name, .str x.topic, .str x.want, .int .i64 x.lease, .int .i64 x.most, .int .i64 x.floor, eInts x.acks]) (post := [.str x.note]) hb hbb (Ne.symm (h.qn _ rfl).2) (msgs_one _) (hk _ (le_setBox (le_del hl (h.qn _ rfl).1) h.bxn) ?_)
      rw [setBox_same]; rfl
  cases ha : h.a with
  | nil h0 =>
    refine CallW.sealNil (sz := 1) (pre := [.int .i64 x.id, .str x.name, .str x.topic, .str x.want, .int .i64 x.lease, .int .i64 x.most, .int .i64 x.floor]) (post := [qv, .str x.note]) h.hbx (step1 _ (le_setBox h.le h.bxn) ?_ (h.q.set fun e => (h.qn _ e).2 rfl))
    rw [setBox_same, eInts, h0]; rfl
  | own b cap junk hbb hc hl2 =>
    refine CallW.seal (sz := 1) (pre := [.int .i64 x.id, .str x.name, .str x.topic, .str x.want, .int .i64 x.lease, .int .i64 x.most, .int .i64 x.floor]) (post := [qv, .str x.note]) h.hbx hbb (Ne.symm (h.an _ rfl).2) (ints_one _) (step1 _ (le_setBox (le_del h.le (h.an _ rfl).1) h.bxn) ?_ ?_)
    · rw [setBox_same]; rfl
    · exact (h.q.keep fun c cs e hcc => by rw [del_ne (fun e2 => h.aq _ rfl (by rw [e, e2]))]; exact hcc).set fun e => (h.qn _ e).2 rfl
end Go.Proofs.YtkbmkhhcppfcnaaDoor
end
section
set_option linter.unusedVariables false
set_option linter.unusedSimpArgs false
set_option maxRecDepth 100000
set_option maxHeartbeats 1000000
namespace Go.Proofs.YtkbmkhhcppfcnaaDoor
open Go.Al Go.RowKit
def done2 (t : UInt8) (j : Nat) : Bool := (([97, 98, 110, 113, 115, 120] : List UInt8).take j).contains t
def xj (x : Sub) (r : Row) (j : Nat) : Sub := if done2 (parts r.key).t j = true then add2 x r else { x with id := (parts r.key).id }
theorem xj_six (x : Sub) (r : Row) : xj x r 6 = add2 x r := by
  unfold xj
  split
  · rfl
  · rename_i h
    have h' : ¬ ((parts r.key).t = 97 ∨ (parts r.key).t = 98 ∨ (parts r.key).t = 110 ∨ (parts r.key).t = 113 ∨ (parts r.key).t = 115 ∨ (parts r.key).t = 120) := by
      simpa [done2] using h
    simp only [not_or] at h'
    obtain ⟨h1, h2, h3, h4, h5, h6⟩ := h'
    rw [add2]
    simp only [h1, h2, h3, h4, h5, h6, if_false]
theorem PlaceAt.keep {τ s : St} {bx : Nat} {x : Sub} {ra rq : Option Nat} {seq : Int} {bm o : Nat} (h : PlaceAt τ s bx x ra rq seq bm o) {br : Nat} (hb : s.box br = none) (ds : List AV) : PlaceAt τ (s.setBox br ds) bx x ra rq seq bm o := by
  cases h with
  | found i m b o hr hi hm hj ho => exact .found i m _ o hr hi hm hj ho
  | lone bm hj hbm hn h1 h2 h3 => exact .lone _ hj (by rw [setBox_ne (fun e => by rw [e, hb] at hbm; cases hbm)]; exact hbm) hn h1 h2 h3
theorem PlaceAt.ne {τ s : St} {bx : Nat} {x : Sub} {ac qv : AV} {ra rq : Option Nat} {seq : Int} {bm o : Nat} (h : PlaceAt τ s bx x ra rq seq bm o) (hx : XAt τ s bx x ac qv ra rq) {br : Nat} (hb : s.box br = none) : br ≠ bm := by
  cases h with
  | found i m b o hr hi hm hj ho => exact fun e => hx.rq_ne hb (by rw [hr, e])
  | lone bm hj hbm hn h1 h2 h3 => exact fun e => by rw [← e, hb] at hbm; cases hbm
theorem PlaceAt.less {τ τ' s : St} {bx : Nat} {x : Sub} {ra rq : Option Nat} {seq : Int} {bm o : Nat} (h : PlaceAt τ s bx x ra rq seq bm o) (hl : St.Le τ' τ) : PlaceAt τ' s bx x ra rq seq bm o := by
  cases h with
  | found i m b o hr hi hm hj ho => exact .found i m _ o hr hi hm hj ho
  | lone bm hj hbm hn h1 h2 h3 => exact .lone _ hj hbm (le_none hl hn) h1 h2 h3
theorem PlaceAt.ne' {τ s : St} {bx : Nat} {x : Sub} {ac qv : AV} {ra rq : Option Nat} {seq : Int} {bm o : Nat} (h : PlaceAt τ s bx x ra rq seq bm o) (hx : XAt τ s bx x ac qv ra rq) {br : Nat} {cs : List AV} (hb : τ.box br = some cs) : br ≠ bm := by
  cases h with
  | found i m b o hr hi hm hj ho => exact fun e => by have := (hx.qn _ hr).1; rw [← e, hb] at this; cases this
  | lone bm hj hbm hn h1 h2 h3 => exact fun e => by rw [← e, hb] at hn; cases hn
theorem XAt.ne {τ s : St} {bx : Nat} {x : Sub} {ac qv : AV} {ra rq : Option Nat} (hx : XAt τ s bx x ac qv ra rq) {br : Nat} (hb : s.box br = none) : br ≠ bx := fun e => by rw [e, hx.hbx] at hb; cases hb
theorem ints_flat (l : List Int) : (l.map (AV.int .i64)).flatMap AV.cells = l.map (AV.int .i64) := by
  induction l with
  | nil => rfl
  | cons a l ih => rw [List.map_cons, List.flatMap_cons, ih]; rfl
theorem XAt.setA {τ s : St} {bx b cap n : Nat} {x : Sub} {qv : AV} {rq : Option Nat} (h : XAt τ s bx x (.msl b 0 n cap) qv (some b) rq) {l' : List Int} {junk : List AV} (hn : l'.length = n) (hc : n ≤ cap) (hl : cap * 1 ≤ (l'.map (AV.int .i64) ++ junk).length) : XAt τ (s.setBox b (l'.map (AV.int .i64) ++ junk)) bx { x with acks := l' } (.msl b 0 n cap) qv (some b) rq := by
  refine ⟨le_setBox h.le (h.an _ rfl).1, by rw [setBox_ne (Ne.symm (h.an _ rfl).2)]; exact h.hbx, h.bxn, ?_, h.q.set (h.aq _ rfl), h.an, h.qn, h.aq⟩
  have := RowV.own (σ := s.setBox b (l'.map (AV.int .i64) ++ junk)) (sz := 1) (xs := l'.map (AV.int .i64)) b cap junk (by rw [setBox_same, ints_flat]) (by simpa [hn] using hc) (by rw [ints_flat]; exact hl)
  rw [List.length_map, hn] at this
  exact this
theorem enc2_short {x : Sub} (h : Fits x) : (enc2 x).length ≤ 1000000000 := by
  have h1 := ack2_len x
  have h2 := note2_len x
  have h3 := rowsOf_len x 120 xN x.queue
  rw [rowsOf_x] at h3
  have h4 := h.nqueue
  simp only [enc2, List.length_append, List.length_map, List.length_singleton]
  omega
theorem weak_sub0 : Weak (.tup [eSub sub0, .int .u16 ((11 : Nat) : Int)]) (.tup [.agg [.int .i64 0, .str [], .str [], .str [], .int .i64 0, .int .i64 0, .int .i64 0, .nils, .nils, .str []], .int .u16 11]) :=
  .tup (.cons (.agg (.cons (.refl _) (.cons (.refl _) (.cons (.refl _) (.cons (.refl _) (.cons (.refl _) (.cons (.refl _) (.cons (.refl _) (.cons (.nils 1 .no (.inl rfl)) (.cons (.nils 8 .no (.inl rfl)) (.cons (.refl _) .nil)))))))))) (by intro c hc; simp [eSub] at hc; rcases hc with rfl | rfl | rfl | rfl | rfl | rfl | rfl | rfl | rfl | rfl <;> rfl)) (.cons (.refl _) .nil))
theorem know_le {τ s : St} {B : BL} (h : Know τ B) (hl : St.Le τ s) : Know s B := ⟨fun p hp => hl.box _ _ (h.has p hp), h.nd⟩
set_option maxHeartbeats 4000000 in
theorem dec2_p (w0 : World) (hL : Laid w0) (l : List Row) (tk : Tok) (hl : tot l ≤ 100000) (hk : ∀ r ∈ l, r.key.length ≤ 1000000) : CallP Tryd.prog w0 30 [.slc 2 (l.map eRow) tk] (.tup [eSub (dec2 l).1, .int .u16 ((dec2 l).2 : Nat)]) := by
  refine CallP.x Ty.tok Ty.mixed Tryd.func30 rfl Tryd.ntmps30 rfl (by simp) (by decide +kernel) fun σ => ?_
  have hlen := tot_len l
  have hfits := fin2_fits l hl
  (conv => whnf); intro b2 hb2; (conv => whnf); intro bx hbx; (conv => whnf)
  skip
  have hK2 : Know (σ.setBox b2 (xc sub0 .nils .nils)) [(b2, xc sub0 .nils .nils)] := (Know.nil σ).new hb2
  have hσ : St.Le σ (σ.setBox b2 (xc sub0 .nils .nils)) := le_new (.refl _) hb2
  have hx0 : XAt (σ.setBox b2 (xc sub0 .nils .nils)) ((σ.setBox b2 (xc sub0 .nils .nils)).setBox bx (xc sub0 .nils .nils)) bx sub0 .nils .nils none none :=
    ⟨le_new (.refl _) hbx, setBox_same, hbx, .nil rfl, .nil rfl, (fun b e => by cases e), (fun b e => by cases e), (fun b e => by cases e)⟩
  have hb2' : ∀ s : St, St.Le (σ.setBox b2 (xc sub0 .nils .nils)) s → St.Le σ s := fun s h => hσ.trans h
  generalize hτ : σ.setBox b2 (xc sub0 .nils .nils) = τ at hK2 hσ hx0 hb2'
  refine SLoop.by2 Ty.mixed (fun (a : Nat × AV × Option Nat × AV × Option Nat) => l.length - a.1) (fun (i, ac, ra, qv, rq) => [(0, .slc 2 (l.map eRow) .no), (2, .ptr b2 0), (4, .ptr bx 0), (16, .slc 2 (l.map eRow) .no), (17, .int .i64 l.length), (18, .int .i64 i)]) (fun (i, ac, ra, qv, rq) => [(bx, xc (rows2 (l.take i)) ac qv), (b2, xc sub0 .nils .nils)])
    (fun (i, ac, ra, qv, rq) s => i ≤ l.length ∧ XAt τ s bx (rows2 (l.take i)) ac qv ra rq) (0, .nils, none, .nils, none) ⟨?_, .refl _, Nat.zero_le _, by subst hτ; exact hx0⟩ ?_
  · show xWeak [(0, .slc 2 (l.map eRow) .no), (2, .ptr b2 0), (4, .ptr bx 0), (16, .slc 2 (l.map eRow) .no), (17, .int .i64 l.length), (18, .int .i64 (0 : Nat))] _
    rw [List.length_map]
    repeat (first | exact trivial | refine ⟨by first | trivial | exact Weak.refl _ | exact Weak.tok _ _ _ | exact Weak.of_eq (congrArg (AV.int _) (by omega)) | exact Weak.of_eq (congrArg AV.bool (by fail)) | exact Weak.nils _ _ (.inr rfl), ?_⟩)
  rintro ⟨i, ac, ra, qv, rq⟩ s ⟨hi, hx⟩ hK
  by_cases hlt : i < l.length
  · have hc : decide ((i : Int) < (l.length : Nat)) = true := decide_eq_true (by omega)
    have ga : l[i]? = some l[i] := by simp [hlt]
    have hkl := hk _ (List.getElem_mem hlt)
    have hvl := tot_mem (List.getElem_mem hlt)
    have hsn := rows2_snoc ga
    have hft := rows2_fit l i (by omega)
    have htl := tot_le l i
    have hac := hft.acks
    have hqu := hft.queue
    generalize l[i] = r at ga hkl hvl hsn
    have hK : Know s [(bx, xc (rows2 (l.take i)) ac qv), (b2, xc sub0 .nils .nils)] := hK
    generalize rows2 (l.take i) = x at hx hsn hft hac hqu hK
    have hpa := partsS_any w0 hL r.key hkl
    have hxs := xj_six x r
    refine ⟨_, hK, ?_⟩; (conv => whnf); refine SIf.y Ty.mixed (by assumption) ?_; (conv => whnf)
    refine ⟨_, ⟨by first | omega | (simp only [List.length_cons, List.length_append, List.length_nil, List.length_map, length_aBytes, List.length_replicate, List.length_range]; omega) | fail, by exact get_map ga⟩, ?_⟩
    (conv => whnf); intro b6 hb6; (conv => whnf); refine SStore.on 0 rfl ?_; (conv => whnf); refine SLoad.on 0 rfl ?_; (conv => whnf); refine SCall.p (by exact hpa) ?_; (conv => whnf); refine SStore.on 1 rfl ?_; (conv => whnf); refine SCall.p (by exact tables2_any w0) ?_; (conv => whnf)
    have hx6 : XAt τ (s.setBox bx (xc { x with id := (parts r.key).id } ac qv)) bx { x with id := (parts r.key).id } ac qv ra rq := hx.own _ rfl rfl
    have hb6x : b6 ≠ bx := hx.ne hb6
    have hxz : xj x r 0 = { x with id := (parts r.key).id } := by rw [xj, if_neg (by simp [done2])]
    refine SLoop.fz 6 0 (s.setBox bx (xc { x with id := (parts r.key).id } ac qv)) [(bx, xc { x with id := (parts r.key).id } ac qv), (b2, xc sub0 .nils .nils)] rfl (by rw [setBox_setBox, setBox_comm hb6x]; exact le_setBox (.refl _) (by rw [setBox_ne hb6x]; exact hb6)) (by rw [setBox_ne hb6x]; exact hb6) (hx6.know hK2) rfl rfl ?_
    refine SLoop.by2 Ty.mixed (fun (a : Nat × AV × Option Nat × AV × Option Nat) => 6 - a.1) (fun (j, ac, ra, qv, rq) => [(0, .slc 2 (l.map eRow) .no), (2, .ptr b2 0), (4, .ptr bx 0), (16, .slc 2 (l.map eRow) .no), (17, .int .i64 l.length), (18, .int .i64 i), (6, .vp (eRow r)), (8, .int .u8 (parts r.key).t.toNat), (10, .int .i64 (parts r.key).seq), (33, .agg tabs2), (34, .int .i64 j)]) (fun (j, ac, ra, qv, rq) => [(bx, xc (xj x r j) ac qv), (b2, xc sub0 .nils .nils)])
      (fun (j, ac, ra, qv, rq) s => j ≤ 6 ∧ XAt τ s bx (xj x r j) ac qv ra rq) (0, ac, ra, qv, rq) ⟨by repeat (first | exact trivial | refine ⟨by first | trivial | exact Weak.refl _ | exact Weak.tok _ _ _ | exact Weak.of_eq (congrArg (AV.int _) (by omega)) | exact Weak.of_eq (congrArg AV.bool (by fail)) | exact Weak.nils _ _ (.inr rfl), ?_⟩), ?_, Nat.zero_le _, by show XAt τ _ bx (xj x r 0) ac qv ra rq; rw [hxz]; exact hx6⟩ ?_
    · show BSub [(bx, xc (xj x r 0) ac qv), _] _
      rw [hxz]
      exact .refl _
    clear hx6 hx hK; rintro ⟨j, ac, ra, qv, rq⟩ s ⟨hj, hx⟩ hK
    have hT : ∀ (t : UInt8), (parts r.key).t ≠ t → decide ((t.toNat : Int) = ((parts r.key).t.toNat : Nat)) = false := fun t h => decide_eq_false fun e => h (UInt8.toNat_inj.1 (by omega))
    match j, hj with
    | 0, _ =>
      by_cases ht : (parts r.key).t = 97
      · have hy : xj x r 0 = { x with id := (parts r.key).id } := by rw [xj, ht]; rfl
        have hy2 : xj x r 1 = tell 97 (parts r.key).seq r.val { x with id := (parts r.key).id } := by rw [xj, if_pos (by rw [ht]; rfl), add2_tell, ht]
        have hK : Know s [(bx, xc (xj x r 0) ac qv), (b2, xc sub0 .nils .nils)] := hK
        rw [hy] at hx hK
        generalize hyy : ({ x with id := (parts r.key).id } : Sub) = y at hx hK hy hy2
        have hya : y.acks = x.acks := by rw [← hyy]
        have hyq : y.queue = x.queue := by rw [← hyy]
        have hpt : ((parts r.key).t.toNat : Int) = 97 := by rw [ht]; rfl
        show ∃ B, Know s B ∧ xOpen [(0, .slc 2 (l.map eRow) .no), (2, .ptr b2 0), (4, .ptr bx 0), (16, .slc 2 (l.map eRow) .no), (17, .int .i64 l.length), (18, .int .i64 i), (6, .vp (eRow r)), (8, .int .u8 (parts r.key).t.toNat), (10, .int .i64 (parts r.key).seq), (33, .agg tabs2), (34, .int .i64 ((0 : Nat) : Int))] B _
        rw [hpt]
        refine ⟨_, hK, ?_⟩; (conv => whnf); refine SIf.y Ty.mixed (by exact rfl) ?_; (conv => whnf); refine And.intro (by omega) ?_; (conv => whnf); refine ⟨_, rfl, ?_⟩; (conv => whnf); intro b13 hb13; (conv => whnf); refine SStore.on 0 rfl ?_; (conv => whnf); refine SLoad.on 0 rfl ?_; (conv => whnf); refine SIf.y Ty.mixed (by exact rfl) ?_; (conv => whnf); refine SReg.fz 13 hb13 rfl rfl ?_
        refine SReg.two [0, 1, 2, 3, 5, 6, 7] 4 8 [9] [0, 0, 0, 0, 2, 0, 0, 0, 2, 2] (by decide +kernel) ?_; (conv => whnf)
        skip
        refine And.intro ?_ ?_
        · (conv => whnf)
          refine SCall.wK (fun hB => place_any w0 y ac qv ra rq _ bx 97 (parts r.key).seq _ (by rw [hyq]; omega) hx) rfl ?_; rintro rr s1 ⟨bm, o, qv', rq', rfl, hx1, hp⟩ hB; refine ⟨_, hx1.know hK2, ?_⟩; (conv => whnf); refine SBox.b rfl ?_; (conv => whnf); intro br hbr; (conv => whnf)
          refine SCall.wK (fun hB => rT_a w0 _ _ bx br bm o y ac qv' ra rq' (parts r.key).seq r.val (by omega) (by rw [hya]; omega) (hx1.other (le_none hx1.le hbr) (hx1.ne hbr) (hx1.ra_ne hbr) (hx1.rq_ne hbr) _) (hp.keep hbr _) setBox_same (le_none hx1.le hbr) (hx1.ne hbr) (hx1.ra_ne hbr) (hx1.rq_ne hbr) (hp.ne hx1 hbr)) rfl ?_; rintro rr s2 ⟨rfl, ac', ra', hx2⟩ hB; refine ⟨_, hx2.know hK2, ?_⟩
          (conv => whnf); refine ⟨_, IntWalk.i64_in _ (by omega), ?_⟩; (conv => whnf)
          refine ⟨(1, ac', ra', qv', rq'), by show 6 - (0 + 1) < 6 - 0; decide, by repeat (first | exact trivial | refine ⟨by first | trivial | exact Weak.refl _ | exact Weak.tok _ _ _ | exact Weak.of_eq (congrArg (AV.int _) (by omega)) | exact Weak.of_eq (congrArg AV.bool (by fail)) | exact Weak.nils _ _ (.inr rfl), ?_⟩), ?_, by decide, ?_⟩
          · show BSub [(bx, xc (xj x r 1) ac' qv'), _] _
            rw [hy2]
            exact .refl _
          · show XAt τ _ bx (xj x r 1) ac' qv' ra' rq'
            rw [hy2]
            exact hx2
        · (conv => whnf)
          refine SBox.b rfl ?_; (conv => whnf); intro br hbr; (conv => whnf)
          have hxg := hx.grow hbr (rd2 r.val (0, false))
          have hKr := hK2.new (cs := rd2 r.val (0, false)) (le_none hx.le hbr)
          refine SCall.wK (fun hB => place_any w0 y ac qv ra rq _ bx 97 (parts r.key).seq _ (by rw [hyq]; omega) hxg) rfl ?_; rintro rr s1 ⟨bm, o, qv', rq', rfl, hx1, hp⟩ hB; refine ⟨_, hx1.know hKr, ?_⟩
          have hττ : St.Le τ (τ.setBox br (rd2 r.val (0, false))) := le_new (.refl _) (le_none hx.le hbr)
          have hqn : rq' ≠ some br := fun e => by have := (hx1.qn _ e).1; rw [setBox_same] at this; cases this
          (conv => whnf)
          skip
          refine SCall.wK (fun hB => rT_a w0 _ _ bx br bm o y ac qv' ra rq' (parts r.key).seq r.val (by omega) (by rw [hya]; omega) (hx1.less hττ) (hp.less hττ) (hx1.le.box _ _ setBox_same) (le_none hx.le hbr) (hx.ne hbr) (hx.ra_ne hbr) hqn (hp.ne' hx1 setBox_same)) rfl ?_; rintro rr s2 ⟨rfl, ac', ra', hx2⟩ hB; refine ⟨_, hx2.know hK2, ?_⟩; (conv => whnf)
          refine ⟨_, IntWalk.i64_in _ (by omega), ?_⟩; (conv => whnf)
          refine ⟨(1, ac', ra', qv', rq'), by show 6 - (0 + 1) < 6 - 0; decide, by repeat (first | exact trivial | refine ⟨by first | trivial | exact Weak.refl _ | exact Weak.tok _ _ _ | exact Weak.of_eq (congrArg (AV.int _) (by omega)) | exact Weak.of_eq (congrArg AV.bool (by fail)) | exact Weak.nils _ _ (.inr rfl), ?_⟩), ?_, by decide, ?_⟩
          · show BSub [(bx, xc (xj x r 1) ac' qv'), _] _
            rw [hy2]
            exact .refl _
          · show XAt τ _ bx (xj x r 1) ac' qv' ra' rq'
            rw [hy2]
            exact hx2
      · have hd := hT 97 ht
        have hy : xj x r 1 = xj x r 0 := by unfold xj; congr 1; simp [done2, ht]
        refine ⟨_, hK, ?_⟩; (conv => whnf); refine SIf.y Ty.mixed (by exact rfl) ?_; (conv => whnf); refine And.intro (by omega) ?_; (conv => whnf); refine ⟨_, rfl, ?_⟩; (conv => whnf); intro b13 hb13; (conv => whnf); refine SStore.on 0 rfl ?_; (conv => whnf); refine SLoad.on 0 rfl ?_; (conv => whnf); refine SIf.n Ty.mixed (by assumption) ?_; (conv => whnf)
        refine ⟨_, IntWalk.i64_in _ (by omega), ?_⟩; (conv => whnf)
        refine ⟨(1, ac, ra, qv, rq), by show 6 - (0 + 1) < 6 - 0; decide, by repeat (first | exact trivial | refine ⟨by first | trivial | exact Weak.refl _ | exact Weak.tok _ _ _ | exact Weak.of_eq (congrArg (AV.int _) (by omega)) | exact Weak.of_eq (congrArg AV.bool (by fail)) | exact Weak.nils _ _ (.inr rfl), ?_⟩), ?_, by decide, ?_⟩
        · show BSub [(bx, xc (xj x r 1) ac qv), _] _
          rw [hy]
          exact .drop (.refl _)
        · show XAt τ _ bx (xj x r 1) ac qv ra rq
          rw [hy, setBox_setBox]
          exact (hx.grow hb13 _).less (le_new (.refl _) (le_none hx.le hb13))
    | 1, _ =>
      by_cases ht : (parts r.key).t = 98
      · have hy : xj x r 1 = { x with id := (parts r.key).id } := by rw [xj, ht]; rfl
        have hy2 : xj x r 2 = tell 98 (parts r.key).seq r.val { x with id := (parts r.key).id } := by rw [xj, if_pos (by rw [ht]; rfl), add2_tell, ht]
        have hK : Know s [(bx, xc (xj x r 1) ac qv), (b2, xc sub0 .nils .nils)] := hK
        rw [hy] at hx hK
        generalize hyy : ({ x with id := (parts r.key).id } : Sub) = y at hx hK hy hy2
        have hya : y.acks = x.acks := by rw [← hyy]
        have hyq : y.queue = x.queue := by rw [← hyy]
        have hpt : ((parts r.key).t.toNat : Int) = 98 := by rw [ht]; rfl
        show ∃ B, Know s B ∧ xOpen [(0, .slc 2 (l.map eRow) .no), (2, .ptr b2 0), (4, .ptr bx 0), (16, .slc 2 (l.map eRow) .no), (17, .int .i64 l.length), (18, .int .i64 i), (6, .vp (eRow r)), (8, .int .u8 (parts r.key).t.toNat), (10, .int .i64 (parts r.key).seq), (33, .agg tabs2), (34, .int .i64 ((1 : Nat) : Int))] B _
        rw [hpt]
        refine ⟨_, hK, ?_⟩; (conv => whnf); refine SIf.y Ty.mixed (by exact rfl) ?_; (conv => whnf); refine And.intro (by omega) ?_; (conv => whnf); refine ⟨_, rfl, ?_⟩; (conv => whnf); intro b13 hb13; (conv => whnf); refine SStore.on 0 rfl ?_; (conv => whnf); refine SLoad.on 0 rfl ?_; (conv => whnf); refine SIf.y Ty.mixed (by exact rfl) ?_; (conv => whnf); refine SReg.fz 13 hb13 rfl rfl ?_
        refine SReg.two [0, 1, 2, 3, 5, 6, 7] 4 8 [9] [0, 0, 0, 0, 2, 0, 0, 0, 2, 2] (by decide +kernel) ?_; (conv => whnf)
        skip
        refine And.intro ?_ ?_
        · (conv => whnf)
          refine SCall.wK (fun hB => place_any w0 y ac qv ra rq _ bx 98 (parts r.key).seq _ (by rw [hyq]; omega) hx) rfl ?_; rintro rr s1 ⟨bm, o, qv', rq', rfl, hx1, hp⟩ hB; refine ⟨_, hx1.know hK2, ?_⟩; (conv => whnf); refine SBox.b rfl ?_; (conv => whnf); intro br hbr; (conv => whnf)
          refine SCall.wK (fun hB => rT_b w0 _ _ bx br bm o y ac qv' ra rq' (parts r.key).seq r.val (by omega) (by rw [hya]; omega) (hx1.other (le_none hx1.le hbr) (hx1.ne hbr) (hx1.ra_ne hbr) (hx1.rq_ne hbr) _) (hp.keep hbr _) setBox_same (le_none hx1.le hbr) (hx1.ne hbr) (hx1.ra_ne hbr) (hx1.rq_ne hbr) (hp.ne hx1 hbr)) rfl ?_; rintro rr s2 ⟨rfl, ac', ra', hx2⟩ hB; refine ⟨_, hx2.know hK2, ?_⟩
          (conv => whnf); refine ⟨_, IntWalk.i64_in _ (by omega), ?_⟩; (conv => whnf)
          refine ⟨(2, ac', ra', qv', rq'), by show 6 - (1 + 1) < 6 - 1; decide, by repeat (first | exact trivial | refine ⟨by first | trivial | exact Weak.refl _ | exact Weak.tok _ _ _ | exact Weak.of_eq (congrArg (AV.int _) (by omega)) | exact Weak.of_eq (congrArg AV.bool (by fail)) | exact Weak.nils _ _ (.inr rfl), ?_⟩), ?_, by decide, ?_⟩
          · show BSub [(bx, xc (xj x r 2) ac' qv'), _] _
            rw [hy2]
            exact .refl _
          · show XAt τ _ bx (xj x r 2) ac' qv' ra' rq'
            rw [hy2]
            exact hx2
        · (conv => whnf)
          refine SBox.b rfl ?_; (conv => whnf); intro br hbr; (conv => whnf)
          have hxg := hx.grow hbr (rd2 r.val (0, false))
          have hKr := hK2.new (cs := rd2 r.val (0, false)) (le_none hx.le hbr)
          refine SCall.wK (fun hB => place_any w0 y ac qv ra rq _ bx 98 (parts r.key).seq _ (by rw [hyq]; omega) hxg) rfl ?_; rintro rr s1 ⟨bm, o, qv', rq', rfl, hx1, hp⟩ hB; refine ⟨_, hx1.know hKr, ?_⟩
          have hττ : St.Le τ (τ.setBox br (rd2 r.val (0, false))) := le_new (.refl _) (le_none hx.le hbr)
          have hqn : rq' ≠ some br := fun e => by have := (hx1.qn _ e).1; rw [setBox_same] at this; cases this
          (conv => whnf)
          skip
          refine SCall.wK (fun hB => rT_b w0 _ _ bx br bm o y ac qv' ra rq' (parts r.key).seq r.val (by omega) (by rw [hya]; omega) (hx1.less hττ) (hp.less hττ) (hx1.le.box _ _ setBox_same) (le_none hx.le hbr) (hx.ne hbr) (hx.ra_ne hbr) hqn (hp.ne' hx1 setBox_same)) rfl ?_; rintro rr s2 ⟨rfl, ac', ra', hx2⟩ hB; refine ⟨_, hx2.know hK2, ?_⟩; (conv => whnf)
          refine ⟨_, IntWalk.i64_in _ (by omega), ?_⟩; (conv => whnf)
          refine ⟨(2, ac', ra', qv', rq'), by show 6 - (1 + 1) < 6 - 1; decide, by repeat (first | exact trivial | refine ⟨by first | trivial | exact Weak.refl _ | exact Weak.tok _ _ _ | exact Weak.of_eq (congrArg (AV.int _) (by omega)) | exact Weak.of_eq (congrArg AV.bool (by fail)) | exact Weak.nils _ _ (.inr rfl), ?_⟩), ?_, by decide, ?_⟩
          · show BSub [(bx, xc (xj x r 2) ac' qv'), _] _
            rw [hy2]
            exact .refl _
          · show XAt τ _ bx (xj x r 2) ac' qv' ra' rq'
            rw [hy2]
            exact hx2
      · have hd := hT 98 ht
        have hy : xj x r 2 = xj x r 1 := by unfold xj; congr 1; simp [done2, ht]
        refine ⟨_, hK, ?_⟩; (conv => whnf); refine SIf.y Ty.mixed (by exact rfl) ?_; (conv => whnf); refine And.intro (by omega) ?_; (conv => whnf); refine ⟨_, rfl, ?_⟩; (conv => whnf); intro b13 hb13; (conv => whnf); refine SStore.on 0 rfl ?_; (conv => whnf); refine SLoad.on 0 rfl ?_; (conv => whnf); refine SIf.n Ty.mixed (by assumption) ?_; (conv => whnf)
        refine ⟨_, IntWalk.i64_in _ (by omega), ?_⟩; (conv => whnf)
        refine ⟨(2, ac, ra, qv, rq), by show 6 - (1 + 1) < 6 - 1; decide, by repeat (first | exact trivial | refine ⟨by first | trivial | exact Weak.refl _ | exact Weak.tok _ _ _ | exact Weak.of_eq (congrArg (AV.int _) (by omega)) | exact Weak.of_eq (congrArg AV.bool (by fail)) | exact Weak.nils _ _ (.inr rfl), ?_⟩), ?_, by decide, ?_⟩
        · show BSub [(bx, xc (xj x r 2) ac qv), _] _
          rw [hy]
          exact .drop (.refl _)
        · show XAt τ _ bx (xj x r 2) ac qv ra rq
          rw [hy, setBox_setBox]
          exact (hx.grow hb13 _).less (le_new (.refl _) (le_none hx.le hb13))
    | 2, _ =>
      by_cases ht : (parts r.key).t = 110
      · have hy : xj x r 2 = { x with id := (parts r.key).id } := by rw [xj, ht]; rfl
        have hy2 : xj x r 3 = tell 110 (parts r.key).seq r.val { x with id := (parts r.key).id } := by rw [xj, if_pos (by rw [ht]; rfl), add2_tell, ht]
        have hK : Know s [(bx, xc (xj x r 2) ac qv), (b2, xc sub0 .nils .nils)] := hK
        rw [hy] at hx hK
        generalize hyy : ({ x with id := (parts r.key).id } : Sub) = y at hx hK hy hy2
        have hya : y.acks = x.acks := by rw [← hyy]
        have hyq : y.queue = x.queue := by rw [← hyy]
        have hpt : ((parts r.key).t.toNat : Int) = 110 := by rw [ht]; rfl
        show ∃ B, Know s B ∧ xOpen [(0, .slc 2 (l.map eRow) .no), (2, .ptr b2 0), (4, .ptr bx 0), (16, .slc 2 (l.map eRow) .no), (17, .int .i64 l.length), (18, .int .i64 i), (6, .vp (eRow r)), (8, .int .u8 (parts r.key).t.toNat), (10, .int .i64 (parts r.key).seq), (33, .agg tabs2), (34, .int .i64 ((2 : Nat) : Int))] B _
        rw [hpt]
        refine ⟨_, hK, ?_⟩; (conv => whnf); refine SIf.y Ty.mixed (by exact rfl) ?_; (conv => whnf); refine And.intro (by omega) ?_; (conv => whnf); refine ⟨_, rfl, ?_⟩; (conv => whnf); intro b13 hb13; (conv => whnf); refine SStore.on 0 rfl ?_; (conv => whnf); refine SLoad.on 0 rfl ?_; (conv => whnf); refine SIf.y Ty.mixed (by exact rfl) ?_; (conv => whnf); refine SReg.fz 13 hb13 rfl rfl ?_
        refine SReg.two [0, 1, 2, 3, 5, 6, 7] 4 8 [9] [0, 0, 0, 0, 2, 0, 0, 0, 2, 2] (by decide +kernel) ?_; (conv => whnf)
        skip
        refine And.intro ?_ ?_
        · (conv => whnf)
          refine SCall.wK (fun hB => place_any w0 y ac qv ra rq _ bx 110 (parts r.key).seq _ (by rw [hyq]; omega) hx) rfl ?_; rintro rr s1 ⟨bm, o, qv', rq', rfl, hx1, hp⟩ hB; refine ⟨_, hx1.know hK2, ?_⟩; (conv => whnf); refine SBox.b rfl ?_; (conv => whnf); intro br hbr; (conv => whnf)
          refine SCall.wK (fun hB => rT_n w0 _ _ bx br bm o y ac qv' ra rq' (parts r.key).seq r.val (by omega) (by rw [hya]; omega) (hx1.other (le_none hx1.le hbr) (hx1.ne hbr) (hx1.ra_ne hbr) (hx1.rq_ne hbr) _) (hp.keep hbr _) setBox_same (le_none hx1.le hbr) (hx1.ne hbr) (hx1.ra_ne hbr) (hx1.rq_ne hbr) (hp.ne hx1 hbr)) rfl ?_; rintro rr s2 ⟨rfl, ac', ra', hx2⟩ hB; refine ⟨_, hx2.know hK2, ?_⟩
          (conv => whnf); refine ⟨_, IntWalk.i64_in _ (by omega), ?_⟩; (conv => whnf)
          refine ⟨(3, ac', ra', qv', rq'), by show 6 - (2 + 1) < 6 - 2; decide, by repeat (first | exact trivial | refine ⟨by first | trivial | exact Weak.refl _ | exact Weak.tok _ _ _ | exact Weak.of_eq (congrArg (AV.int _) (by omega)) | exact Weak.of_eq (congrArg AV.bool (by fail)) | exact Weak.nils _ _ (.inr rfl), ?_⟩), ?_, by decide, ?_⟩
          · show BSub [(bx, xc (xj x r 3) ac' qv'), _] _
            rw [hy2]
            exact .refl _
          · show XAt τ _ bx (xj x r 3) ac' qv' ra' rq'
            rw [hy2]
            exact hx2
        · (conv => whnf)
          refine SBox.b rfl ?_; (conv => whnf); intro br hbr; (conv => whnf)
          have hxg := hx.grow hbr (rd2 r.val (0, false))
          have hKr := hK2.new (cs := rd2 r.val (0, false)) (le_none hx.le hbr)
          refine SCall.wK (fun hB => place_any w0 y ac qv ra rq _ bx 110 (parts r.key).seq _ (by rw [hyq]; omega) hxg) rfl ?_; rintro rr s1 ⟨bm, o, qv', rq', rfl, hx1, hp⟩ hB; refine ⟨_, hx1.know hKr, ?_⟩
          have hττ : St.Le τ (τ.setBox br (rd2 r.val (0, false))) := le_new (.refl _) (le_none hx.le hbr)
          have hqn : rq' ≠ some br := fun e => by have := (hx1.qn _ e).1; rw [setBox_same] at this; cases this
          (conv => whnf)
          skip
          refine SCall.wK (fun hB => rT_n w0 _ _ bx br bm o y ac qv' ra rq' (parts r.key).seq r.val (by omega) (by rw [hya]; omega) (hx1.less hττ) (hp.less hττ) (hx1.le.box _ _ setBox_same) (le_none hx.le hbr) (hx.ne hbr) (hx.ra_ne hbr) hqn (hp.ne' hx1 setBox_same)) rfl ?_; rintro rr s2 ⟨rfl, ac', ra', hx2⟩ hB; refine ⟨_, hx2.know hK2, ?_⟩; (conv => whnf)
          refine ⟨_, IntWalk.i64_in _ (by omega), ?_⟩; (conv => whnf)
          refine ⟨(3, ac', ra', qv', rq'), by show 6 - (2 + 1) < 6 - 2; decide, by repeat (first | exact trivial | refine ⟨by first | trivial | exact Weak.refl _ | exact Weak.tok _ _ _ | exact Weak.of_eq (congrArg (AV.int _) (by omega)) | exact Weak.of_eq (congrArg AV.bool (by fail)) | exact Weak.nils _ _ (.inr rfl), ?_⟩), ?_, by decide, ?_⟩
          · show BSub [(bx, xc (xj x r 3) ac' qv'), _] _
            rw [hy2]
            exact .refl _
          · show XAt τ _ bx (xj x r 3) ac' qv' ra' rq'
            rw [hy2]
            exact hx2
      · have hd := hT 110 ht
        have hy : xj x r 3 = xj x r 2 := by unfold xj; congr 1; simp [done2, ht]
        refine ⟨_, hK, ?_⟩; (conv => whnf); refine SIf.y Ty.mixed (by exact rfl) ?_; (conv => whnf); refine And.intro (by omega) ?_; (conv => whnf); refine ⟨_, rfl, ?_⟩; (conv => whnf); intro b13 hb13; (conv => whnf); refine SStore.on 0 rfl ?_; (conv => whnf); refine SLoad.on 0 rfl ?_; (conv => whnf); refine SIf.n Ty.mixed (by assumption) ?_; (conv => whnf)
        refine ⟨_, IntWalk.i64_in _ (by omega), ?_⟩; (conv => whnf)
        refine ⟨(3, ac, ra, qv, rq), by show 6 - (2 + 1) < 6 - 2; decide, by repeat (first | exact trivial | refine ⟨by first | trivial | exact Weak.refl _ | exact Weak.tok _ _ _ | exact Weak.of_eq (congrArg (AV.int _) (by omega)) | exact Weak.of_eq (congrArg AV.bool (by fail)) | exact Weak.nils _ _ (.inr rfl), ?_⟩), ?_, by decide, ?_⟩
        · show BSub [(bx, xc (xj x r 3) ac qv), _] _
          rw [hy]
          exact .drop (.refl _)
        · show XAt τ _ bx (xj x r 3) ac qv ra rq
          rw [hy, setBox_setBox]
          exact (hx.grow hb13 _).less (le_new (.refl _) (le_none hx.le hb13))
    | 3, _ =>
      by_cases ht : (parts r.key).t = 113
      · have hy : xj x r 3 = { x with id := (parts r.key).id } := by rw [xj, ht]; rfl
        have hy2 : xj x r 4 = tell 113 (parts r.key).seq r.val { x with id := (parts r.key).id } := by rw [xj, if_pos (by rw [ht]; rfl), add2_tell, ht]
        have hK : Know s [(bx, xc (xj x r 3) ac qv), (b2, xc sub0 .nils .nils)] := hK
        rw [hy] at hx hK
        generalize hyy : ({ x with id := (parts r.key).id } : Sub) = y at hx hK hy hy2
        have hya : y.acks = x.acks := by rw [← hyy]
        have hyq : y.queue = x.queue := by rw [← hyy]
        have hpt : ((parts r.key).t.toNat : Int) = 113 := by rw [ht]; rfl
        show ∃ B, Know s B ∧ xOpen [(0, .slc 2 (l.map eRow) .no), (2, .ptr b2 0), (4, .ptr bx 0), (16, .slc 2 (l.map eRow) .no), (17, .int .i64 l.length), (18, .int .i64 i), (6, .vp (eRow r)), (8, .int .u8 (parts r.key).t.toNat), (10, .int .i64 (parts r.key).seq), (33, .agg tabs2), (34, .int .i64 ((3 : Nat) : Int))] B _
        rw [hpt]
        refine ⟨_, hK, ?_⟩; (conv => whnf); refine SIf.y Ty.mixed (by exact rfl) ?_; (conv => whnf); refine And.intro (by omega) ?_; (conv => whnf); refine ⟨_, rfl, ?_⟩; (conv => whnf); intro b13 hb13; (conv => whnf); refine SStore.on 0 rfl ?_; (conv => whnf); refine SLoad.on 0 rfl ?_; (conv => whnf); refine SIf.y Ty.mixed (by exact rfl) ?_; (conv => whnf); refine SReg.fz 13 hb13 rfl rfl ?_
        refine SReg.two [0, 1, 2, 3, 5, 6, 7] 4 8 [9] [0, 0, 0, 0, 2, 0, 0, 0, 2, 2] (by decide +kernel) ?_; (conv => whnf)
        skip
        refine And.intro ?_ ?_
        · (conv => whnf)
          refine SCall.wK (fun hB => place_any w0 y ac qv ra rq _ bx 113 (parts r.key).seq _ (by rw [hyq]; omega) hx) rfl ?_; rintro rr s1 ⟨bm, o, qv', rq', rfl, hx1, hp⟩ hB; refine ⟨_, hx1.know hK2, ?_⟩; (conv => whnf); refine SBox.b rfl ?_; (conv => whnf); intro br hbr; (conv => whnf)
          refine SCall.wK (fun hB => rT_q w0 _ _ bx br bm o y ac qv' ra rq' (parts r.key).seq r.val (by omega) (by rw [hya]; omega) (hx1.other (le_none hx1.le hbr) (hx1.ne hbr) (hx1.ra_ne hbr) (hx1.rq_ne hbr) _) (hp.keep hbr _) setBox_same (le_none hx1.le hbr) (hx1.ne hbr) (hx1.ra_ne hbr) (hx1.rq_ne hbr) (hp.ne hx1 hbr)) rfl ?_; rintro rr s2 ⟨rfl, ac', ra', hx2⟩ hB; refine ⟨_, hx2.know hK2, ?_⟩
          (conv => whnf); refine ⟨_, IntWalk.i64_in _ (by omega), ?_⟩; (conv => whnf)
          refine ⟨(4, ac', ra', qv', rq'), by show 6 - (3 + 1) < 6 - 3; decide, by repeat (first | exact trivial | refine ⟨by first | trivial | exact Weak.refl _ | exact Weak.tok _ _ _ | exact Weak.of_eq (congrArg (AV.int _) (by omega)) | exact Weak.of_eq (congrArg AV.bool (by fail)) | exact Weak.nils _ _ (.inr rfl), ?_⟩), ?_, by decide, ?_⟩
          · show BSub [(bx, xc (xj x r 4) ac' qv'), _] _
            rw [hy2]
            exact .refl _
          · show XAt τ _ bx (xj x r 4) ac' qv' ra' rq'
            rw [hy2]
            exact hx2
        · (conv => whnf)
          refine SBox.b rfl ?_; (conv => whnf); intro br hbr; (conv => whnf)
          have hxg := hx.grow hbr (rd2 r.val (0, false))
          have hKr := hK2.new (cs := rd2 r.val (0, false)) (le_none hx.le hbr)
          refine SCall.wK (fun hB => place_any w0 y ac qv ra rq _ bx 113 (parts r.key).seq _ (by rw [hyq]; omega) hxg) rfl ?_; rintro rr s1 ⟨bm, o, qv', rq', rfl, hx1, hp⟩ hB; refine ⟨_, hx1.know hKr, ?_⟩
          have hττ : St.Le τ (τ.setBox br (rd2 r.val (0, false))) := le_new (.refl _) (le_none hx.le hbr)
          have hqn : rq' ≠ some br := fun e => by have := (hx1.qn _ e).1; rw [setBox_same] at this; cases this
          (conv => whnf)
          skip
          refine SCall.wK (fun hB => rT_q w0 _ _ bx br bm o y ac qv' ra rq' (parts r.key).seq r.val (by omega) (by rw [hya]; omega) (hx1.less hττ) (hp.less hττ) (hx1.le.box _ _ setBox_same) (le_none hx.le hbr) (hx.ne hbr) (hx.ra_ne hbr) hqn (hp.ne' hx1 setBox_same)) rfl ?_; rintro rr s2 ⟨rfl, ac', ra', hx2⟩ hB; refine ⟨_, hx2.know hK2, ?_⟩; (conv => whnf)
          refine ⟨_, IntWalk.i64_in _ (by omega), ?_⟩; (conv => whnf)
          refine ⟨(4, ac', ra', qv', rq'), by show 6 - (3 + 1) < 6 - 3; decide, by repeat (first | exact trivial | refine ⟨by first | trivial | exact Weak.refl _ | exact Weak.tok _ _ _ | exact Weak.of_eq (congrArg (AV.int _) (by omega)) | exact Weak.of_eq (congrArg AV.bool (by fail)) | exact Weak.nils _ _ (.inr rfl), ?_⟩), ?_, by decide, ?_⟩
          · show BSub [(bx, xc (xj x r 4) ac' qv'), _] _
            rw [hy2]
            exact .refl _
          · show XAt τ _ bx (xj x r 4) ac' qv' ra' rq'
            rw [hy2]
            exact hx2
      · have hd := hT 113 ht
        have hy : xj x r 4 = xj x r 3 := by unfold xj; congr 1; simp [done2, ht]
        refine ⟨_, hK, ?_⟩; (conv => whnf); refine SIf.y Ty.mixed (by exact rfl) ?_; (conv => whnf); refine And.intro (by omega) ?_; (conv => whnf); refine ⟨_, rfl, ?_⟩; (conv => whnf); intro b13 hb13; (conv => whnf); refine SStore.on 0 rfl ?_; (conv => whnf); refine SLoad.on 0 rfl ?_; (conv => whnf); refine SIf.n Ty.mixed (by assumption) ?_; (conv => whnf)
        refine ⟨_, IntWalk.i64_in _ (by omega), ?_⟩; (conv => whnf)
        refine ⟨(4, ac, ra, qv, rq), by show 6 - (3 + 1) < 6 - 3; decide, by repeat (first | exact trivial | refine ⟨by first | trivial | exact Weak.refl _ | exact Weak.tok _ _ _ | exact Weak.of_eq (congrArg (AV.int _) (by omega)) | exact Weak.of_eq (congrArg AV.bool (by fail)) | exact Weak.nils _ _ (.inr rfl), ?_⟩), ?_, by decide, ?_⟩
        · show BSub [(bx, xc (xj x r 4) ac qv), _] _
          rw [hy]
          exact .drop (.refl _)
        · show XAt τ _ bx (xj x r 4) ac qv ra rq
          rw [hy, setBox_setBox]
          exact (hx.grow hb13 _).less (le_new (.refl _) (le_none hx.le hb13))
    | 4, _ =>
      by_cases ht : (parts r.key).t = 115
      · have hy : xj x r 4 = { x with id := (parts r.key).id } := by rw [xj, ht]; rfl
        have hy2 : xj x r 5 = tell 115 (parts r.key).seq r.val { x with id := (parts r.key).id } := by rw [xj, if_pos (by rw [ht]; rfl), add2_tell, ht]
        have hK : Know s [(bx, xc (xj x r 4) ac qv), (b2, xc sub0 .nils .nils)] := hK
        rw [hy] at hx hK
        generalize hyy : ({ x with id := (parts r.key).id } : Sub) = y at hx hK hy hy2
        have hya : y.acks = x.acks := by rw [← hyy]
        have hyq : y.queue = x.queue := by rw [← hyy]
        have hpt : ((parts r.key).t.toNat : Int) = 115 := by rw [ht]; rfl
        show ∃ B, Know s B ∧ xOpen [(0, .slc 2 (l.map eRow) .no), (2, .ptr b2 0), (4, .ptr bx 0), (16, .slc 2 (l.map eRow) .no), (17, .int .i64 l.length), (18, .int .i64 i), (6, .vp (eRow r)), (8, .int .u8 (parts r.key).t.toNat), (10, .int .i64 (parts r.key).seq), (33, .agg tabs2), (34, .int .i64 ((4 : Nat) : Int))] B _
        rw [hpt]
        refine ⟨_, hK, ?_⟩; (conv => whnf); refine SIf.y Ty.mixed (by exact rfl) ?_; (conv => whnf); refine And.intro (by omega) ?_; (conv => whnf); refine ⟨_, rfl, ?_⟩; (conv => whnf); intro b13 hb13; (conv => whnf); refine SStore.on 0 rfl ?_; (conv => whnf); refine SLoad.on 0 rfl ?_; (conv => whnf); refine SIf.y Ty.mixed (by exact rfl) ?_; (conv => whnf); refine SReg.fz 13 hb13 rfl rfl ?_
        refine SReg.two [0, 1, 2, 3, 5, 6, 7] 4 8 [9] [0, 0, 0, 0, 2, 0, 0, 0, 2, 2] (by decide +kernel) ?_; (conv => whnf)
        skip
        refine And.intro ?_ ?_
        · (conv => whnf)
          refine SCall.wK (fun hB => place_any w0 y ac qv ra rq _ bx 115 (parts r.key).seq _ (by rw [hyq]; omega) hx) rfl ?_; rintro rr s1 ⟨bm, o, qv', rq', rfl, hx1, hp⟩ hB; refine ⟨_, hx1.know hK2, ?_⟩; (conv => whnf); refine SBox.b rfl ?_; (conv => whnf); intro br hbr; (conv => whnf)
          refine SCall.wK (fun hB => rT_s w0 _ _ bx br bm o y ac qv' ra rq' (parts r.key).seq r.val (by omega) (by rw [hya]; omega) (hx1.other (le_none hx1.le hbr) (hx1.ne hbr) (hx1.ra_ne hbr) (hx1.rq_ne hbr) _) (hp.keep hbr _) setBox_same (le_none hx1.le hbr) (hx1.ne hbr) (hx1.ra_ne hbr) (hx1.rq_ne hbr) (hp.ne hx1 hbr)) rfl ?_; rintro rr s2 ⟨rfl, ac', ra', hx2⟩ hB; refine ⟨_, hx2.know hK2, ?_⟩
          (conv => whnf); refine ⟨_, IntWalk.i64_in _ (by omega), ?_⟩; (conv => whnf)
          refine ⟨(5, ac', ra', qv', rq'), by show 6 - (4 + 1) < 6 - 4; decide, by repeat (first | exact trivial | refine ⟨by first | trivial | exact Weak.refl _ | exact Weak.tok _ _ _ | exact Weak.of_eq (congrArg (AV.int _) (by omega)) | exact Weak.of_eq (congrArg AV.bool (by fail)) | exact Weak.nils _ _ (.inr rfl), ?_⟩), ?_, by decide, ?_⟩
          · show BSub [(bx, xc (xj x r 5) ac' qv'), _] _
            rw [hy2]
            exact .refl _
          · show XAt τ _ bx (xj x r 5) ac' qv' ra' rq'
            rw [hy2]
            exact hx2
        · (conv => whnf)
          refine SBox.b rfl ?_; (conv => whnf); intro br hbr; (conv => whnf)
          have hxg := hx.grow hbr (rd2 r.val (0, false))
          have hKr := hK2.new (cs := rd2 r.val (0, false)) (le_none hx.le hbr)
          refine SCall.wK (fun hB => place_any w0 y ac qv ra rq _ bx 115 (parts r.key).seq _ (by rw [hyq]; omega) hxg) rfl ?_; rintro rr s1 ⟨bm, o, qv', rq', rfl, hx1, hp⟩ hB; refine ⟨_, hx1.know hKr, ?_⟩
          have hττ : St.Le τ (τ.setBox br (rd2 r.val (0, false))) := le_new (.refl _) (le_none hx.le hbr)
          have hqn : rq' ≠ some br := fun e => by have := (hx1.qn _ e).1; rw [setBox_same] at this; cases this
          (conv => whnf)
          skip
          refine SCall.wK (fun hB => rT_s w0 _ _ bx br bm o y ac qv' ra rq' (parts r.key).seq r.val (by omega) (by rw [hya]; omega) (hx1.less hττ) (hp.less hττ) (hx1.le.box _ _ setBox_same) (le_none hx.le hbr) (hx.ne hbr) (hx.ra_ne hbr) hqn (hp.ne' hx1 setBox_same)) rfl ?_; rintro rr s2 ⟨rfl, ac', ra', hx2⟩ hB; refine ⟨_, hx2.know hK2, ?_⟩; (conv => whnf)
          refine ⟨_, IntWalk.i64_in _ (by omega), ?_⟩; (conv => whnf)
          refine ⟨(5, ac', ra', qv', rq'), by show 6 - (4 + 1) < 6 - 4; decide, by repeat (first | exact trivial | refine ⟨by first | trivial | exact Weak.refl _ | exact Weak.tok _ _ _ | exact Weak.of_eq (congrArg (AV.int _) (by omega)) | exact Weak.of_eq (congrArg AV.bool (by fail)) | exact Weak.nils _ _ (.inr rfl), ?_⟩), ?_, by decide, ?_⟩
          · show BSub [(bx, xc (xj x r 5) ac' qv'), _] _
            rw [hy2]
            exact .refl _
          · show XAt τ _ bx (xj x r 5) ac' qv' ra' rq'
            rw [hy2]
            exact hx2
      · have hd := hT 115 ht
        have hy : xj x r 5 = xj x r 4 := by unfold xj; congr 1; simp [done2, ht]
        refine ⟨_, hK, ?_⟩; (conv => whnf); refine SIf.y Ty.mixed (by exact rfl) ?_; (conv => whnf); refine And.intro (by omega) ?_; (conv => whnf); refine ⟨_, rfl, ?_⟩; (conv => whnf); intro b13 hb13; (conv => whnf); refine SStore.on 0 rfl ?_; (conv => whnf); refine SLoad.on 0 rfl ?_; (conv => whnf); refine SIf.n Ty.mixed (by assumption) ?_; (conv => whnf)
        refine ⟨_, IntWalk.i64_in _ (by omega), ?_⟩; (conv => whnf)
        refine ⟨(5, ac, ra, qv, rq), by show 6 - (4 + 1) < 6 - 4; decide, by repeat (first | exact trivial | refine ⟨by first | trivial | exact Weak.refl _ | exact Weak.tok _ _ _ | exact Weak.of_eq (congrArg (AV.int _) (by omega)) | exact Weak.of_eq (congrArg AV.bool (by fail)) | exact Weak.nils _ _ (.inr rfl), ?_⟩), ?_, by decide, ?_⟩
        · show BSub [(bx, xc (xj x r 5) ac qv), _] _
          rw [hy]
          exact .drop (.refl _)
        · show XAt τ _ bx (xj x r 5) ac qv ra rq
          rw [hy, setBox_setBox]
          exact (hx.grow hb13 _).less (le_new (.refl _) (le_none hx.le hb13))
    | 5, _ =>
      by_cases ht : (parts r.key).t = 120
      · have hy : xj x r 5 = { x with id := (parts r.key).id } := by rw [xj, ht]; rfl
        have hy2 : xj x r 6 = tell 120 (parts r.key).seq r.val { x with id := (parts r.key).id } := by rw [xj, if_pos (by rw [ht]; rfl), add2_tell, ht]
        have hK : Know s [(bx, xc (xj x r 5) ac qv), (b2, xc sub0 .nils .nils)] := hK
        rw [hy] at hx hK
        generalize hyy : ({ x with id := (parts r.key).id } : Sub) = y at hx hK hy hy2
        have hya : y.acks = x.acks := by rw [← hyy]
        have hyq : y.queue = x.queue := by rw [← hyy]
        have hpt : ((parts r.key).t.toNat : Int) = 120 := by rw [ht]; rfl
        show ∃ B, Know s B ∧ xOpen [(0, .slc 2 (l.map eRow) .no), (2, .ptr b2 0), (4, .ptr bx 0), (16, .slc 2 (l.map eRow) .no), (17, .int .i64 l.length), (18, .int .i64 i), (6, .vp (eRow r)), (8, .int .u8 (parts r.key).t.toNat), (10, .int .i64 (parts r.key).seq), (33, .agg tabs2), (34, .int .i64 ((5 : Nat) : Int))] B _
        rw [hpt]
        refine ⟨_, hK, ?_⟩; (conv => whnf); refine SIf.y Ty.mixed (by exact rfl) ?_; (conv => whnf); refine And.intro (by omega) ?_; (conv => whnf); refine ⟨_, rfl, ?_⟩; (conv => whnf); intro b13 hb13; (conv => whnf); refine SStore.on 0 rfl ?_; (conv => whnf); refine SLoad.on 0 rfl ?_; (conv => whnf); refine SIf.y Ty.mixed (by exact rfl) ?_; (conv => whnf); refine SReg.fz 13 hb13 rfl rfl ?_
        refine SReg.two [0, 1, 2, 3, 5, 6, 7] 4 8 [9] [0, 0, 0, 0, 2, 0, 0, 0, 2, 2] (by decide +kernel) ?_; (conv => whnf)
        skip
        refine And.intro ?_ ?_
        · (conv => whnf)
          refine SCall.wK (fun hB => place_any w0 y ac qv ra rq _ bx 120 (parts r.key).seq _ (by rw [hyq]; omega) hx) rfl ?_; rintro rr s1 ⟨bm, o, qv', rq', rfl, hx1, hp⟩ hB; refine ⟨_, hx1.know hK2, ?_⟩; (conv => whnf); refine SBox.b rfl ?_; (conv => whnf); intro br hbr; (conv => whnf)
          refine SCall.wK (fun hB => rT_x w0 _ _ bx br bm o y ac qv' ra rq' (parts r.key).seq r.val (by omega) (by rw [hya]; omega) (hx1.other (le_none hx1.le hbr) (hx1.ne hbr) (hx1.ra_ne hbr) (hx1.rq_ne hbr) _) (hp.keep hbr _) setBox_same (le_none hx1.le hbr) (hx1.ne hbr) (hx1.ra_ne hbr) (hx1.rq_ne hbr) (hp.ne hx1 hbr)) rfl ?_; rintro rr s2 ⟨rfl, ac', ra', hx2⟩ hB; refine ⟨_, hx2.know hK2, ?_⟩
          (conv => whnf); refine ⟨_, IntWalk.i64_in _ (by omega), ?_⟩; (conv => whnf)
          refine ⟨(6, ac', ra', qv', rq'), by show 6 - (5 + 1) < 6 - 5; decide, by repeat (first | exact trivial | refine ⟨by first | trivial | exact Weak.refl _ | exact Weak.tok _ _ _ | exact Weak.of_eq (congrArg (AV.int _) (by omega)) | exact Weak.of_eq (congrArg AV.bool (by fail)) | exact Weak.nils _ _ (.inr rfl), ?_⟩), ?_, by decide, ?_⟩
          · show BSub [(bx, xc (xj x r 6) ac' qv'), _] _
            rw [hy2]
            exact .refl _
          · show XAt τ _ bx (xj x r 6) ac' qv' ra' rq'
            rw [hy2]
            exact hx2
        · (conv => whnf)
          refine SBox.b rfl ?_; (conv => whnf); intro br hbr; (conv => whnf)
          have hxg := hx.grow hbr (rd2 r.val (0, false))
          have hKr := hK2.new (cs := rd2 r.val (0, false)) (le_none hx.le hbr)
          refine SCall.wK (fun hB => place_any w0 y ac qv ra rq _ bx 120 (parts r.key).seq _ (by rw [hyq]; omega) hxg) rfl ?_; rintro rr s1 ⟨bm, o, qv', rq', rfl, hx1, hp⟩ hB; refine ⟨_, hx1.know hKr, ?_⟩
          have hττ : St.Le τ (τ.setBox br (rd2 r.val (0, false))) := le_new (.refl _) (le_none hx.le hbr)
          have hqn : rq' ≠ some br := fun e => by have := (hx1.qn _ e).1; rw [setBox_same] at this; cases this
          (conv => whnf)
          skip
          refine SCall.wK (fun hB => rT_x w0 _ _ bx br bm o y ac qv' ra rq' (parts r.key).seq r.val (by omega) (by rw [hya]; omega) (hx1.less hττ) (hp.less hττ) (hx1.le.box _ _ setBox_same) (le_none hx.le hbr) (hx.ne hbr) (hx.ra_ne hbr) hqn (hp.ne' hx1 setBox_same)) rfl ?_; rintro rr s2 ⟨rfl, ac', ra', hx2⟩ hB; refine ⟨_, hx2.know hK2, ?_⟩; (conv => whnf)
          refine ⟨_, IntWalk.i64_in _ (by omega), ?_⟩; (conv => whnf)
          refine ⟨(6, ac', ra', qv', rq'), by show 6 - (5 + 1) < 6 - 5; decide, by repeat (first | exact trivial | refine ⟨by first | trivial | exact Weak.refl _ | exact Weak.tok _ _ _ | exact Weak.of_eq (congrArg (AV.int _) (by omega)) | exact Weak.of_eq (congrArg AV.bool (by fail)) | exact Weak.nils _ _ (.inr rfl), ?_⟩), ?_, by decide, ?_⟩
          · show BSub [(bx, xc (xj x r 6) ac' qv'), _] _
            rw [hy2]
            exact .refl _
          · show XAt τ _ bx (xj x r 6) ac' qv' ra' rq'
            rw [hy2]
            exact hx2
      · have hd := hT 120 ht
        have hy : xj x r 6 = xj x r 5 := by unfold xj; congr 1; simp [done2, ht]
        refine ⟨_, hK, ?_⟩; (conv => whnf); refine SIf.y Ty.mixed (by exact rfl) ?_; (conv => whnf); refine And.intro (by omega) ?_; (conv => whnf); refine ⟨_, rfl, ?_⟩; (conv => whnf); intro b13 hb13; (conv => whnf); refine SStore.on 0 rfl ?_; (conv => whnf); refine SLoad.on 0 rfl ?_; (conv => whnf); refine SIf.n Ty.mixed (by assumption) ?_; (conv => whnf)
        refine ⟨_, IntWalk.i64_in _ (by omega), ?_⟩; (conv => whnf)
        refine ⟨(6, ac, ra, qv, rq), by show 6 - (5 + 1) < 6 - 5; decide, by repeat (first | exact trivial | refine ⟨by first | trivial | exact Weak.refl _ | exact Weak.tok _ _ _ | exact Weak.of_eq (congrArg (AV.int _) (by omega)) | exact Weak.of_eq (congrArg AV.bool (by fail)) | exact Weak.nils _ _ (.inr rfl), ?_⟩), ?_, by decide, ?_⟩
        · show BSub [(bx, xc (xj x r 6) ac qv), _] _
          rw [hy]
          exact .drop (.refl _)
        · show XAt τ _ bx (xj x r 6) ac qv ra rq
          rw [hy, setBox_setBox]
          exact (hx.grow hb13 _).less (le_new (.refl _) (le_none hx.le hb13))
    | 6, _ =>
      refine ⟨_, hK, ?_⟩; (conv => whnf); refine SIf.n Ty.mixed (by exact rfl) ?_; (conv => whnf); refine ⟨_, IntWalk.i64_in _ (by omega), ?_⟩; (conv => whnf)
      rw [hxs, ← hsn] at hx
      refine ⟨(i + 1, ac, ra, qv, rq), by show l.length - (i + 1) < l.length - i; omega, by repeat (first | exact trivial | refine ⟨by first | trivial | exact Weak.refl _ | exact Weak.tok _ _ _ | exact Weak.of_eq (congrArg (AV.int _) (by omega)) | exact Weak.of_eq (congrArg AV.bool (by fail)) | exact Weak.nils _ _ (.inr rfl), ?_⟩), ?_, by omega, hx⟩
      show BSub [(bx, xc (rows2 (l.take (i + 1))) ac qv), _] _
      rw [hsn, ← hxs]
      exact .refl _
    | n + 7, h => exact absurd h (by omega)
  · have hc : decide ((i : Int) < (l.length : Nat)) = false := decide_eq_false (by omega)
    have hge : i = l.length := by omega
    subst hge
    rw [List.take_length] at hx
    have hK : Know s [(bx, xc (rows2 l) ac qv), (b2, xc sub0 .nils .nils)] := by have h := hK; simp only [List.take_length] at h; exact h
    refine ⟨_, hK, ?_⟩
    have hft := rows2_fit l l.length (Nat.le_refl _)
    rw [List.take_length] at hft
    have hac := hft.acks
    have hfin : fin2 l = { rows2 l with acks := runUp (rows2 l).floor (rows2 l).acks } := rfl
    generalize rows2 l = x at hx hac hfin hK
    cases hax : hx.a with
    | nil h0 =>
      have h0' : x.acks = [] := by simpa using h0
      have hX : XAt τ s bx (fin2 l) .nils qv none rq := by
        have : fin2 l = x := by rw [hfin, h0', runUp, ← h0']
        rw [this]; exact hx
      (conv => whnf); refine SIf.n Ty.mixed (by assumption) ?_; (conv => whnf); refine SLoad.on 0 rfl ?_; (conv => whnf); refine SLoad.on 0 rfl ?_; (conv => whnf)
      refine SLoop.by2 Ty.mixed (fun (_ : Unit) => 0) (fun _ => [(0, .slc 2 (l.map eRow) .no), (2, .ptr b2 0), (4, .ptr bx 0), (57, .int .i64 0), (58, .int .i64 0)]) (fun _ => []) (fun _ s => XAt τ s bx (fin2 l) .nils qv none rq) () ⟨by repeat (first | exact trivial | refine ⟨by first | trivial | exact Weak.refl _ | exact Weak.tok _ _ _ | exact Weak.of_eq (congrArg (AV.int _) (by omega)) | exact Weak.of_eq (congrArg AV.bool (by fail)) | exact Weak.nils _ _ (.inr rfl), ?_⟩), BSub.none _, hX⟩ ?_
      clear hX hx hK hax; rintro _ s hX hK; refine ⟨[], .nil _, ?_⟩
      · (conv => whnf)
        refine SIf.n Ty.mixed (by exact rfl) ?_; (conv => whnf)
        refine SCall.wK (fun hB => XAt.seal hX fun s1 h1 h2 => ((rising2_any w0 l .no (by omega)) s1).mono fun r s2 ⟨e1, e2⟩ => (⟨e1, by subst e2; exact h1, by subst e2; exact h2⟩ : r = AV.bool (upTo l l.length) ∧ St.Le τ s2 ∧ s2.box bx = some (xc (fin2 l) (eInts (fin2 l).acks) (eMsgs (fin2 l).queue)))) rfl ?_
        rintro rr s2 ⟨rfl, h1, h2⟩ hB
        have hbn : bx ∉ ([(b2, xc sub0 .nils .nils)] : BL).map (·.1) := by
          simp only [List.map_cons, List.map_nil, List.mem_singleton]
          rintro rfl
          have := hK2.has _ (List.mem_singleton.2 rfl)
          rw [hX.bxn] at this; cases this
        refine ⟨[(bx, xc (fin2 l) (eInts (fin2 l).acks) (eMsgs (fin2 l).queue)), (b2, xc sub0 .nils .nils)], (know_le hK2 h1).add h2 hbn, ?_⟩
        by_cases hu : upTo l l.length = true
        · rw [hu]
          by_cases he : enc2 (fin2 l) = l
          · have hd2 : (!decide (enc2 (fin2 l) = l)) = false := by rw [decide_eq_true he]; rfl
            have hlen2 : (enc2 (fin2 l)).length ≤ 1000000000 := by rw [he]; omega
            have hdec : dec2 l = (fin2 l, 0) := if_pos ⟨hu, he⟩
            rw [hdec]
            (conv => whnf); refine SCond.n (by exact rfl) ?_; (conv => whnf); refine SLoad.on 0 rfl ?_; (conv => whnf); refine SCond.n (by exact rfl) ?_; (conv => whnf); refine SCall.p (by exact enc2_p w0 hL (fin2 l) hfits) ?_; (conv => whnf); refine SCond.n (by exact rfl) ?_; (conv => whnf); refine SCond.n (by exact rfl) ?_; (conv => whnf)
            refine SCall.p (by exact eqRows2_any w0 _ _ _ _ (by omega)) ?_; (conv => whnf); refine SCond.n (by exact rfl) ?_; (conv => whnf); refine SPick.n (by exact rfl) ?_; (conv => whnf); refine SIf.n Ty.mixed (by assumption) ?_; (conv => whnf); refine SLoad.on 0 rfl ?_; (conv => whnf); refine SStore.on 1 rfl ?_; (conv => whnf); refine SLoad.on 1 rfl ?_; (conv => whnf)
            exact .p (le_setBox (hσ.trans h1) hb2) rfl
          · have hd2 : (!decide (enc2 (fin2 l) = l)) = true := by rw [decide_eq_false he]; rfl
            have hlen2 : (enc2 (fin2 l)).length ≤ 1000000000 := enc2_short hfits
            have hdec : dec2 l = (sub0, 11) := if_neg fun h => he h.2
            rw [hdec]
            (conv => whnf); refine SCond.n (by exact rfl) ?_; (conv => whnf); refine SLoad.on 0 rfl ?_; (conv => whnf); refine SCond.n (by exact rfl) ?_; (conv => whnf); refine SCall.p (by exact enc2_p w0 hL (fin2 l) hfits) ?_; (conv => whnf); refine SCond.n (by exact rfl) ?_; (conv => whnf); refine SCond.n (by exact rfl) ?_; (conv => whnf)
            refine SCall.p (by exact eqRows2_any w0 _ _ _ _ (by omega)) ?_; (conv => whnf); refine SCond.n (by exact rfl) ?_; (conv => whnf); refine SPick.n (by exact rfl) ?_; (conv => whnf); refine SIf.y Ty.mixed (by assumption) ?_; (conv => whnf); refine SStore.on 1 rfl ?_; (conv => whnf); refine SLoad.on 1 rfl ?_; (conv => whnf); exact .v (le_setBox (hσ.trans h1) hb2) weak_sub0
        · have hu' : upTo l l.length = false := by simpa using hu
          rw [hu']
          have hdec : dec2 l = (sub0, 11) := if_neg fun h => hu h.1
          rw [hdec]
          (conv => whnf); refine SCond.y (by exact rfl) ?_; (conv => whnf); refine SCond.y (by exact rfl) ?_; (conv => whnf); refine SCond.y (by exact rfl) ?_; (conv => whnf); refine SCond.y (by exact rfl) ?_; (conv => whnf); refine SCond.y (by exact rfl) ?_; (conv => whnf); refine SPick.y (by exact rfl) ?_; (conv => whnf); refine SIf.y Ty.mixed (by exact rfl) ?_; (conv => whnf)
          refine SStore.on 1 rfl ?_; (conv => whnf); refine SLoad.on 1 rfl ?_; (conv => whnf); exact .v (le_setBox (hσ.trans h1) hb2) weak_sub0
    | own b cap junk hb hcp hl2 =>
      rw [List.length_map] at hx hK ⊢
      (conv => whnf); refine SIf.n Ty.mixed (by assumption) ?_; (conv => whnf); refine SLoad.on 0 rfl ?_; (conv => whnf); refine SLoad.on 0 rfl ?_; (conv => whnf)
      refine SLoop.by2 Ty.mixed (fun (a : List Int × List Int × Int) => a.2.1.length) (fun (dn, rest, la) => [(0, .slc 2 (l.map eRow) .no), (2, .ptr b2 0), (4, .ptr bx 0), (14, .int .i64 la), (57, .int .i64 x.acks.length), (58, .int .i64 dn.length)]) (fun _ => [(bx, xc x (.msl b 0 x.acks.length cap) qv), (b2, xc sub0 .nils .nils)])
        (fun (dn, rest, la) s => XAt τ s bx { x with acks := dn ++ rest } (.msl b 0 x.acks.length cap) qv (some b) rq ∧ runUp x.floor x.acks = dn ++ runUp la rest ∧ dn.length + rest.length = x.acks.length) ([], x.acks, x.floor) ⟨by repeat (first | exact trivial | refine ⟨by first | trivial | exact Weak.refl _ | exact Weak.tok _ _ _ | exact Weak.of_eq (congrArg (AV.int _) (by omega)) | exact Weak.of_eq (congrArg AV.bool (by fail)) | exact Weak.nils _ _ (.inr rfl), ?_⟩), .refl _, hx, rfl, by simp⟩ ?_
      clear hx hK hax hb; rintro ⟨dn, rest, la⟩ s ⟨hX, hru, hle⟩ hK
      cases rest with
      | nil =>
        have hc : decide ((dn.length : Int) < (x.acks.length : Nat)) = false := decide_eq_false (by simp at hle; omega)
        have hX : XAt τ s bx (fin2 l) (.msl b 0 x.acks.length cap) qv (some b) rq := by
          rw [runUp, List.append_nil] at hru
          rw [hfin, hru]
          rwa [List.append_nil] at hX
        refine ⟨_, hK, ?_⟩; (conv => whnf); refine SIf.n Ty.mixed (by assumption) ?_; (conv => whnf)
        refine SCall.wK (fun hB => XAt.seal hX fun s1 h1 h2 => ((rising2_any w0 l .no (by omega)) s1).mono fun r s2 ⟨e1, e2⟩ => (⟨e1, by subst e2; exact h1, by subst e2; exact h2⟩ : r = AV.bool (upTo l l.length) ∧ St.Le τ s2 ∧ s2.box bx = some (xc (fin2 l) (eInts (fin2 l).acks) (eMsgs (fin2 l).queue)))) rfl ?_
        rintro rr s2 ⟨rfl, h1, h2⟩ hB
        have hbn : bx ∉ ([(b2, xc sub0 .nils .nils)] : BL).map (·.1) := by
          simp only [List.map_cons, List.map_nil, List.mem_singleton]
          rintro rfl
          have := hK2.has _ (List.mem_singleton.2 rfl)
          rw [hX.bxn] at this; cases this
        refine ⟨[(bx, xc (fin2 l) (eInts (fin2 l).acks) (eMsgs (fin2 l).queue)), (b2, xc sub0 .nils .nils)], (know_le hK2 h1).add h2 hbn, ?_⟩
        by_cases hu : upTo l l.length = true
        · rw [hu]
          by_cases he : enc2 (fin2 l) = l
          · have hd2 : (!decide (enc2 (fin2 l) = l)) = false := by rw [decide_eq_true he]; rfl
            have hlen2 : (enc2 (fin2 l)).length ≤ 1000000000 := by rw [he]; omega
            have hdec : dec2 l = (fin2 l, 0) := if_pos ⟨hu, he⟩
            rw [hdec]
            (conv => whnf); refine SCond.n (by exact rfl) ?_; (conv => whnf); refine SLoad.on 0 rfl ?_; (conv => whnf); refine SCond.n (by exact rfl) ?_; (conv => whnf); refine SCall.p (by exact enc2_p w0 hL (fin2 l) hfits) ?_; (conv => whnf); refine SCond.n (by exact rfl) ?_; (conv => whnf); refine SCond.n (by exact rfl) ?_; (conv => whnf)
            refine SCall.p (by exact eqRows2_any w0 _ _ _ _ (by omega)) ?_; (conv => whnf); refine SCond.n (by exact rfl) ?_; (conv => whnf); refine SPick.n (by exact rfl) ?_; (conv => whnf); refine SIf.n Ty.mixed (by assumption) ?_; (conv => whnf); refine SLoad.on 0 rfl ?_; (conv => whnf); refine SStore.on 1 rfl ?_; (conv => whnf); refine SLoad.on 1 rfl ?_; (conv => whnf)
            exact .p (le_setBox (hσ.trans h1) hb2) rfl
          · have hd2 : (!decide (enc2 (fin2 l) = l)) = true := by rw [decide_eq_false he]; rfl
            have hlen2 : (enc2 (fin2 l)).length ≤ 1000000000 := enc2_short hfits
            have hdec : dec2 l = (sub0, 11) := if_neg fun h => he h.2
            rw [hdec]
            (conv => whnf); refine SCond.n (by exact rfl) ?_; (conv => whnf); refine SLoad.on 0 rfl ?_; (conv => whnf); refine SCond.n (by exact rfl) ?_; (conv => whnf); refine SCall.p (by exact enc2_p w0 hL (fin2 l) hfits) ?_; (conv => whnf); refine SCond.n (by exact rfl) ?_; (conv => whnf); refine SCond.n (by exact rfl) ?_; (conv => whnf)
            refine SCall.p (by exact eqRows2_any w0 _ _ _ _ (by omega)) ?_; (conv => whnf); refine SCond.n (by exact rfl) ?_; (conv => whnf); refine SPick.n (by exact rfl) ?_; (conv => whnf); refine SIf.y Ty.mixed (by assumption) ?_; (conv => whnf); refine SStore.on 1 rfl ?_; (conv => whnf); refine SLoad.on 1 rfl ?_; (conv => whnf); exact .v (le_setBox (hσ.trans h1) hb2) weak_sub0
        · have hu' : upTo l l.length = false := by simpa using hu
          rw [hu']
          have hdec : dec2 l = (sub0, 11) := if_neg fun h => hu h.1
          rw [hdec]
          (conv => whnf); refine SCond.y (by exact rfl) ?_; (conv => whnf); refine SCond.y (by exact rfl) ?_; (conv => whnf); refine SCond.y (by exact rfl) ?_; (conv => whnf); refine SCond.y (by exact rfl) ?_; (conv => whnf); refine SCond.y (by exact rfl) ?_; (conv => whnf); refine SPick.y (by exact rfl) ?_; (conv => whnf); refine SIf.y Ty.mixed (by exact rfl) ?_; (conv => whnf)
          refine SStore.on 1 rfl ?_; (conv => whnf); refine SLoad.on 1 rfl ?_; (conv => whnf); exact .v (le_setBox (hσ.trans h1) hb2) weak_sub0
      | cons a rest =>
        have hc : decide ((dn.length : Int) < (x.acks.length : Nat)) = true := decide_eq_true (by simp at hle; omega)
        simp only [List.length_cons] at hle
        obtain ⟨cap', junk', hb', hcap, hl3⟩ : ∃ (cap' : Nat) (junk' : List AV), s.box b = some (dn.map (AV.int .i64) ++ [AV.int .i64 a] ++ (rest.map (AV.int .i64) ++ junk')) ∧ x.acks.length ≤ cap ∧ cap * 1 ≤ (dn.map (AV.int .i64) ++ [AV.int .i64 a] ++ (rest.map (AV.int .i64) ++ junk')).length := by
          have hq := hX.a
          generalize hv : AV.msl b 0 x.acks.length cap = vv at hq
          cases hq with
          | own b3 cap3 junk3 hb3 hcp3 hl3 =>
            injection hv with e1 e2 e3 e4
            subst e4
            have ef : ({ x with acks := dn ++ a :: rest } : Sub).acks.map (AV.int .i64) = dn.map (AV.int .i64) ++ [AV.int .i64 a] ++ rest.map (AV.int .i64) := by simp
            rw [ints_flat, ef, List.append_assoc] at hb3 hl3
            exact ⟨cap, junk3, hb3, by rw [e3]; exact hcp3, hl3⟩
        have hbb : b ∉ ([(bx, xc x (.msl b 0 x.acks.length cap) qv), (b2, xc sub0 .nils .nils)] : BL).map (·.1) := by
          simp only [List.map_cons, List.map_nil, List.mem_cons, List.not_mem_nil, or_false, not_or]
          refine ⟨(hX.an _ rfl).2, ?_⟩; rintro rfl
          have := hK2.has _ (List.mem_singleton.2 rfl)
          rw [(hX.an _ rfl).1] at this; cases this
        have hw : IntKind.i64.wrap (((dn.length : Nat) : Int) + 1) = ((dn.length : Nat) : Int) + 1 := IntWalk.i64_in _ (by omega)
        have ho : 0 + ((dn.length : Nat) : Int).toNat * 1 = (dn.map (AV.int .i64)).length + 0 := by simp
        refine ⟨_, hK.add hb' hbb, ?_⟩; (conv => whnf); refine SIf.y Ty.mixed (by assumption) ?_; (conv => whnf); refine SLoad.on 1 rfl ?_; (conv => whnf); refine And.intro (by (refine ⟨?_, ?_⟩ <;> omega)) ?_; (conv => whnf); refine SLoad.mid 0 0 rfl ho rfl ?_; (conv => whnf); refine ⟨_, rfl, ?_⟩; (conv => whnf); refine SLoad.on 1 rfl ?_; (conv => whnf)
        refine And.intro (by (refine ⟨?_, ?_⟩ <;> omega)) ?_; (conv => whnf); refine SStore.mid 0 0 rfl ho (Nat.le_of_ble_eq_true rfl) ?_; (conv => whnf); refine ⟨_, hw, ?_⟩; (conv => whnf)
        refine ⟨(dn ++ [w64 (la + a)], rest, w64 (la + a)), Nat.lt_succ_self _, ?_, .drop (.refl _), ?_, ?_, by simp; omega⟩
        · show xWeak [(0, .slc 2 (l.map eRow) .no), (2, .ptr b2 0), (4, .ptr bx 0), (14, .int .i64 (w64 (la + a))), (57, .int .i64 x.acks.length), (58, .int .i64 ((dn ++ [w64 (la + a)]).length : Nat))] _
          rw [List.length_append, List.length_singleton]
          repeat (first | exact trivial | refine ⟨by first | trivial | exact Weak.refl _ | exact Weak.tok _ _ _ | exact Weak.of_eq (congrArg (AV.int _) (by omega)) | exact Weak.of_eq (congrArg AV.bool (by fail)) | exact Weak.nils _ _ (.inr rfl), ?_⟩)
        · have := hX.setA (l' := dn ++ [w64 (la + a)] ++ rest) (junk := junk') (by simp; omega) hcap (by simp at hl3 ⊢; omega)
          simpa [w64] using this
        · rw [hru, runUp]; simp
end Go.Proofs.YtkbmkhhcppfcnaaDoor
end
section
set_option linter.unusedVariables false
set_option linter.unusedSimpArgs false
set_option maxRecDepth 100000
set_option maxHeartbeats 400000
namespace Go.Proofs.YtkbmkhhcppfcnaaDoor
open Go.Al Go.RowKit
theorem lay_any (w0 : World) (hL : Laid w0) {σ0 σ : St} {bo : Nat} {rows : List Row} {x : Sub} {t : UInt8} {seq : Int} {b : List UInt8} {tw tk tk0 : Tok} (hm : Moves (σ0.setBox bo [.slc 2 (rows.map eRow) tk]) tk0 σ tk) (hl : rows.length ≤ 1000000) :
    CallW Tryd.prog w0 34 [.int .u8 t.toNat, .int .i64 seq, .slc 1 (aBytes b) tw, .ptr bo 0, .vp (eSub x)] σ (fun r s => r = .tup [] ∧ ∃ tk', Moves (σ0.setBox bo [.slc 2 ((rows ++ [(⟨rkey 3 t x.id seq, b⟩ : Row)]).map eRow) tk']) tk0 s tk') := by
  refine CallW.weak1 [_, _] [_, _] (.tok 1 (aBytes b) tw) ?_
  refine CallW.start Tryd.func34 rfl Tryd.ntmps34 (by simp) fun Q hQ => ?_
  refine W.regionDK 1 [] Ty.mixed (by decide +kernel) (by decide +kernel) rfl ?_; apply r_load; exact rfl; exact rfl; exact rfl; decide; exact rfl; apply hb_moves (by assumption); exact setBox_same; exact aLoad1 rfl; apply r_op; exact rfl; exact rfl; apply a_move; (conv => (lhs; whnf)); apply r_op; exact rfl; exact rfl; apply g_fieldAddr; exact a_fieldAddr1 rfl (by decide) rfl; apply r_op
  exact rfl; exact rfl; apply g_load; exact a_load1 rfl rfl; apply r_op; exact rfl; exact rfl; apply a_move; (conv => (lhs; whnf)); apply r_callP; exact rfl; exact rfl; exact rfl; exact rfl; exact rfl; infer_instance; exact keyS_any w0 hL 3 (by omega) t _ _; apply r_op; exact rfl; exact rfl; apply a_move; (conv => (lhs; whnf)); apply r_op; exact rfl; exact rfl; apply g_build; apply a_build
  apply EvP.cons (by (conv => (lhs; whnf))); apply EvP.cons (by (conv => (lhs; whnf))); exact EvP.nil
  simp only [aFill, List.getElem?_cons_zero, List.getElem?_cons_succ, AV.cells, List.length_cons, List.length_nil, AV.flat, AV.one, setL, List.set_cons_zero, List.set_cons_succ, Nat.reduceAdd, Nat.reduceLeDiff, Nat.reduceMul, and_self, if_true, ↓reduceIte, Nat.zero_add, Nat.le_refl, List.range, List.range.loop, List.map_cons, List.map_nil, Nat.zero_le]
  rfl; apply r_op; exact rfl; exact rfl; apply g_buildSlice; apply a_build1; (conv => (lhs; whnf)); exact rfl; exact rfl; decide; apply r_append'; exact rfl; exact rfl; decide; infer_instance; exact rfl; exact rfl; exact rfl; exact rfl; exact rfl; assumption
  simp only [length_aBytes, List.length_append, List.length_cons, List.length_nil, List.length_map, List.length_range]
  omega; intro tk1 σ1 hm; apply r_store; exact rfl; exact rfl; exact rfl; decide; infer_instance; exact rfl; apply hb_moves (by assumption); exact setBox_same; (conv => (lhs; whnf)); exact rfl; (conv => (lhs; whnf)); exact rfl; exact of_decide_eq_true rfl; exact setL_whole rfl; (with_reducible refine runs_done ?_); refine post_n hQ rfl rfl ⟨rfl, tk1, ?_⟩
  have h9 := hm.set bo [.slc 2 ((rows ++ [(⟨rkey 3 t x.id seq, b⟩ : Row)]).map eRow) tk1]
  rw [setBox_setBox] at h9
  rw [List.map_append] at h9 ⊢
  exact h9
theorem rowR_any (w0 : World) (hL : Laid w0) (t : UInt8) (id seq : Int) (b : List UInt8) (tw : Tok) : CallP Tryd.prog w0 39 [.int .u8 t.toNat, .int .i64 id, .int .i64 seq, .slc 1 (aBytes b) tw] (eRow ⟨rkey 3 t id seq, b⟩) := by
  intro σ; refine CallW.weak1 [_, _, _] [] (.tok 1 (aBytes b) tw) ?_
  refine CallW.start Tryd.func39 rfl Tryd.ntmps39 (by simp) fun Q hQ => ?_
  refine W.seq ?_; refine W.regionL (by decide +kernel) rfl ?_; apply r_alloc; exact rfl; exact rfl; decide; exact rfl; (conv => (lhs; whnf)); intro b1 hb1; (with_reducible refine runs_done ?_); refine W.seq ?_; refine W.regionL (by decide +kernel) rfl ?_; apply r_op; exact rfl; exact rfl; apply a_move; (conv => (lhs; whnf)); apply r_op; exact rfl; exact rfl; apply a_move; (conv => (lhs; whnf))
  apply r_op; exact rfl; exact rfl; apply a_move; (conv => (lhs; whnf)); apply r_callP; exact rfl; exact rfl; exact rfl; exact rfl; exact rfl; infer_instance; exact keyR_any w0 hL 3 (by omega) t _ _; apply r_op; exact rfl; exact rfl; apply a_move; (conv => (lhs; whnf)); apply r_op; exact rfl; exact rfl; apply g_build; apply a_build; apply EvP.cons (by (conv => (lhs; whnf)))
  apply EvP.cons (by (conv => (lhs; whnf))); exact EvP.nil
  simp only [aFill, List.getElem?_cons_zero, List.getElem?_cons_succ, AV.cells, List.length_cons, List.length_nil, AV.flat, AV.one, setL, List.set_cons_zero, List.set_cons_succ, Nat.reduceAdd, Nat.reduceLeDiff, Nat.reduceMul, and_self, if_true, ↓reduceIte, Nat.zero_add, Nat.le_refl, List.range, List.range.loop, List.map_cons, List.map_nil, Nat.zero_le]
  rfl; apply r_store; exact rfl; exact rfl; exact rfl; decide; infer_instance; exact rfl; exact setBox_same; (conv => (lhs; whnf)); exact rfl; (conv => (lhs; whnf)); exact rfl; exact of_decide_eq_true rfl; exact setL_whole rfl; (with_reducible refine runs_done ?_); refine W.ret ?_; show Q Exit.ret _ _
  refine post_q hQ (by apply res_cell; exact rfl; exact setBox_same; exact aLoadA rfl (by rfl) rfl; exact res_nil) (.inl rfl) (by refine le_setBox ?_ (by assumption); refine le_setBox ?_ (by assumption); exact .refl _) ?_; (conv => (lhs; whnf)); rfl
theorem refnum_ch (w0 : World) {σ0 σ : St} {tk0 tk : Tok} {b : List UInt8} (n : Int) (hm : Moves σ0 tk0 σ tk) (hb : b.length ≤ 1000000000) : CallW Tryd.prog w0 41 [.slc 1 (aBytes b) tk, .int .i64 n] σ (fun r s => ∃ tk', r = .slc 1 (aBytes (b ++ num n)) tk' ∧ Moves σ0 tk0 s tk') :=
  (refnum_room w0 b tk n hb σ hm.room).mono fun r s ⟨tk', e, h⟩ => ⟨tk', e, hm.trans h⟩
theorem refnum_nil (w0 : World) {σ : St} (n : Int) : CallW Tryd.prog w0 41 [.nils, .int .i64 n] σ (fun r s => ∃ tk', r = .slc 1 (aBytes (num n)) tk' ∧ Moves σ .full s tk') :=
  CallW.weak1 [] [_] (.nils 1 .full (.inr rfl)) (refnum_room w0 [] .full n (by simp) σ (.inl rfl))
theorem reftext_ch (w0 : World) {σ0 σ : St} {tk0 tk : Tok} {b : List UInt8} (s : List UInt8) (hs : s.length ≤ 1000) (hm : Moves σ0 tk0 σ tk) (hb : b.length ≤ 1000000000) : CallW Tryd.prog w0 42 [.slc 1 (aBytes b) tk, .str s] σ (fun r σ' => ∃ tk', r = .slc 1 (aBytes (b ++ txt s)) tk' ∧ Moves σ0 tk0 σ' tk') :=
  (reftext_room w0 b tk s hb (by omega) σ hm.room).mono fun r s ⟨tk', e, h⟩ => ⟨tk', e, hm.trans h⟩
theorem reftext_nil (w0 : World) {σ : St} (s : List UInt8) (hs : s.length ≤ 1000) : CallW Tryd.prog w0 42 [.nils, .str s] σ (fun r σ' => ∃ tk', r = .slc 1 (aBytes (txt s)) tk' ∧ Moves σ .full σ' tk') :=
  CallW.weak1 [] [_] (.nils 1 .full (.inr rfl)) (reftext_room w0 [] .full s (by simp) (by omega) σ (.inl rfl))
theorem bd_num (n : Int) : (num n).length ≤ 8 := num_len n
theorem bd_txt {s : List UInt8} (h : s.length ≤ 1000) : (txt s).length ≤ 1008 := by have := txt_len s; omega
theorem bd_app {a b : List UInt8} {n m : Nat} (h : a.length ≤ n) (k : b.length ≤ m) : (a ++ b).length ≤ n + m := by simp; omega
theorem bd_nil : ([] : List UInt8).length ≤ 0 := Nat.le_refl _
theorem bd_nums (l : List Int) : (numsB l).length ≤ 8 * l.length := numsB_len l
theorem refacks_room (w0 : World) (x : Sub) (hx : Fits x) (σ : St) : CallW Tryd.prog w0 40 [eSub x] σ (fun r s => ∃ tk', r = .slc 1 (aBytes (acksB x)) tk' ∧ Moves σ .full s tk') := by
  refine CallW.start Tryd.func40 rfl Tryd.ntmps40 (by simp) fun Q hQ => ?_
  refine W.seq ?_; refine W.regionL (by decide +kernel) rfl ?_; apply r_boxF; exact rfl; exact rfl; exact rfl; (conv => (lhs; whnf)); exact rfl; apply r_op; exact rfl; exact rfl; apply a_assign; (conv => (lhs; whnf)); (with_reducible refine runs_done ?_); refine W.seq ?_; refine W.regionL (by decide +kernel) rfl ?_; apply r_op; exact rfl; exact rfl; apply g_fieldAddr
  exact a_fieldAddr1 rfl (by decide) rfl; apply r_op; exact rfl; exact rfl; apply g_load; exact a_load1 rfl rfl; apply r_op; exact rfl; exact rfl; apply g_call; exact a_len_slc rfl; apply r_callM; exact rfl; exact rfl; decide; exact rfl; exact rfl; exact rfl; infer_instance; exact refnum_nil w0 _; intro tk1 σ1 hm; apply r_op; exact rfl; exact rfl; apply a_assign; (conv => (lhs; whnf))
  (with_reducible refine runs_done ?_); refine W.seq ?_; refine W.regionL (by decide +kernel) rfl ?_; apply r_op; exact rfl; exact rfl; apply g_fieldAddr; exact a_fieldAddr1 rfl (by decide) rfl; apply r_op; exact rfl; exact rfl; apply g_load; exact a_load1 rfl rfl; apply r_op; exact rfl; exact rfl; apply a_assign; (conv => (lhs; whnf)); (with_reducible refine runs_done ?_); refine W.seq ?_
  refine W.seq ?_; refine W.regionL (by decide +kernel) rfl ?_; apply r_op; exact rfl; exact rfl; apply a_assign; (conv => (lhs; whnf)); (with_reducible refine runs_done ?_); refine W.block ?_
  refine W.loop (fun k E s => ∃ (i : Nat) (acc : List UInt8) (last : Int) (tk : Tok), i ≤ x.acks.length ∧ k = x.acks.length - i ∧ acc.length ≤ 8 + 8 * i ∧ acc ++ gapsB last (x.acks.drop i) = acksB x ∧ Moves σ .full s tk ∧ Has [(1, .vp (eSub x)), (3, .slc 1 (aBytes acc) tk), (4, .int .i64 last), (5, .int .i64 i)] E) x.acks.length ⟨0, num x.acks.length, x.floor, tk1, Nat.zero_le _, rfl, by have := num_len x.acks.length; omega, rfl, hm, ?_⟩ ?_
  · rw [List.length_map]
    exact Has.by (by repeat (first | exact trivial | refine ⟨by first | trivial | exact Weak.refl _ | exact Weak.tok _ _ _ | exact Weak.of_eq (congrArg (AV.int _) (by omega)) | exact Weak.nils _ _ (.inr rfl), ?_⟩))
  · rintro k E s ⟨i, acc, last, tk, hi, rfl, hlen, hacc, hm, hE⟩
    refine W.has hE ?_; clear hE
    have hna := hx.nacks
    have hq : acc.length ≤ 1000000000 := by omega
    refine W.seq ?_; refine W.seq ?_; refine W.regionL (by decide +kernel) rfl ?_; apply r_op; exact rfl; exact rfl; apply a_move; (conv => (lhs; whnf)); apply r_op; exact rfl; exact rfl; apply g_fieldAddr; exact a_fieldAddr1 rfl (by decide) rfl; apply r_op; exact rfl; exact rfl; apply g_load; exact a_load1 rfl rfl; apply r_op; exact rfl; exact rfl; apply g_call; exact a_len_slc rfl; apply r_op
    exact rfl; exact rfl; apply g_binOp; exact a_binI rfl rfl rfl; (with_reducible refine runs_done ?_); refine W.cond rfl (fun hc => ?_) (fun hc => ?_)
    · have hlt : i < x.acks.length := by simp at hc; omega
      have ga : x.acks[i]? = some x.acks[i] := by simp [hlt]
      have hd := gapsB_drop ga last
      have h8 := num_len (w64 (x.acks[i] - last))
      generalize x.acks[i] = a at ga hd h8
      refine W.skip ?_; show W _ _ _ _ _ _ _; refine W.seq ?_; refine W.block ?_; refine W.seq ?_; refine W.regionL (by decide +kernel) rfl ?_; apply r_op; exact rfl; exact rfl; apply a_move; (conv => (lhs; whnf)); apply r_op; exact rfl; exact rfl; apply g_fieldAddr; exact a_fieldAddr1 rfl (by decide) rfl; apply r_op; exact rfl; exact rfl; apply g_load; exact a_load1 rfl rfl; apply r_op; exact rfl
      exact rfl; apply a_move; (conv => (lhs; whnf)); apply r_op; exact rfl; exact rfl; apply g_indexAddr; exact a_indexAddr rfl rfl (by decide) (by omega) (by exact get_map (by assumption)); apply r_op; exact rfl; exact rfl; apply g_load; exact a_load1 rfl rfl; apply r_op; exact rfl; exact rfl; apply a_move; (conv => (lhs; whnf)); apply r_op; exact rfl; exact rfl; apply g_binOp
      exact a_binI rfl rfl rfl; apply r_callM; exact rfl; exact rfl; decide; exact rfl; exact rfl; exact rfl; infer_instance; exact refnum_ch w0 _ (by assumption) (by assumption); intro tk1 σ1 hm; apply r_op; exact rfl; exact rfl; apply a_assign; (conv => (lhs; whnf)); (with_reducible refine runs_done ?_); refine W.regionL (by decide +kernel) rfl ?_; apply r_op; exact rfl; exact rfl
      apply g_fieldAddr; exact a_fieldAddr1 rfl (by decide) rfl; apply r_op; exact rfl; exact rfl; apply g_load; exact a_load1 rfl rfl; apply r_op; exact rfl; exact rfl; apply a_move; (conv => (lhs; whnf)); apply r_op; exact rfl; exact rfl; apply g_indexAddr; exact a_indexAddr rfl rfl (by decide) (by omega) (by exact get_map (by assumption)); apply r_op; exact rfl; exact rfl; apply g_load
      exact a_load1 rfl rfl; apply r_op; exact rfl; exact rfl; apply a_assign; (conv => (lhs; whnf)); (with_reducible refine runs_done ?_); refine W.regionL (by decide +kernel) rfl ?_; apply r_op; exact rfl; exact rfl; apply a_move; (conv => (lhs; whnf)); apply r_op; exact rfl; exact rfl; apply g_binOp; exact a_add64 rfl rfl (by omega); apply r_op; exact rfl; exact rfl; apply a_assign
      (conv => (lhs; whnf)); (with_reducible refine runs_done ?_)
      exact ⟨x.acks.length - (i + 1), by omega, i + 1, acc ++ num (w64 (a - last)), a, tk1, by omega, rfl, by simp; omega, by rw [List.append_assoc, ← hd]; exact hacc, hm, by exact Has.by (by repeat (first | exact trivial | refine ⟨by first | trivial | exact Weak.refl _ | exact Weak.tok _ _ _ | exact Weak.of_eq (congrArg (AV.int _) (by omega)) | exact Weak.nils _ _ (.inr rfl), ?_⟩))⟩
    · have hge : i = x.acks.length := by simp at hc; omega
      rw [hge, List.drop_length, gapsB, List.append_nil] at hacc
      subst hacc
      refine W.exit ?_; show W _ _ _ _ _ _ _; refine W.seq ?_; refine W.regionL (by decide +kernel) rfl ?_; apply r_op; exact rfl; exact rfl; apply a_move; (conv => (lhs; whnf)); apply r_op; exact rfl; exact rfl; apply a_assign; (conv => (lhs; whnf)); (with_reducible refine runs_done ?_); refine W.ret ?_; show Q Exit.ret _ _; refine post_p hQ rfl rfl ?_
      exact ⟨tk, rfl, hm⟩
end Go.Proofs.YtkbmkhhcppfcnaaDoor
end
section
set_option linter.unusedVariables false
set_option linter.unusedSimpArgs false
set_option maxRecDepth 100000
set_option maxHeartbeats 1000000
namespace Go.Proofs.YtkbmkhhcppfcnaaDoor
open Go.Al Go.RowKit
def preR (x : Sub) : List Row := if x.acks = [] then [] else [⟨rkey 3 97 x.id 0, acksB x⟩]
theorem preR_len (x : Sub) : (preR x).length ≤ 1 := by unfold preR; split <;> simp
theorem enc3_eq (x : Sub) : enc3 x = (preR x ++ x.queue.map (msgRow x.id)) ++ [⟨rkey 3 115 x.id 0, subB x⟩] := rfl
theorem map_take_snoc {α β : Type} (f : α → β) {l : List α} {i : Nat} {a : α} (h : l[i]? = some a) : (l.take (i + 1)).map f = (l.take i).map f ++ [f a] := by rw [take_snoc h, List.map_append]; rfl
theorem bd_txts (l : List (List UInt8)) (h : ∀ a ∈ l, a.length ≤ 1000) : (txtsB l).length ≤ 1008 * l.length := txtsB_len l h
theorem all1 {a : List UInt8} (h : a.length ≤ 1000) : ∀ b ∈ [a], b.length ≤ 1000 := by simpa using h
theorem all2 {a b : List UInt8} (h : a.length ≤ 1000) (k : b.length ≤ 1000) : ∀ c ∈ [a, b], c.length ≤ 1000 := by simp; exact ⟨h, k⟩
theorem all3 {a b c : List UInt8} (h : a.length ≤ 1000) (k : b.length ≤ 1000) (l : c.length ≤ 1000) : ∀ d ∈ [a, b, c], d.length ≤ 1000 := by simp; exact ⟨h, k, l⟩
theorem encW_room (w0 : World) (hL : Laid w0) (x : Sub) (hx : Fits x) (σ : St) : CallW Tryd.prog w0 16 [eSub x] σ (fun r s => ∃ tk', r = .slc 2 ((enc3 x).map eRow) tk' ∧ Moves σ .full s tk') := by
  refine CallW.start Tryd.func16 rfl Tryd.ntmps16 (by simp) fun Q hQ => ?_
  refine W.seq ?_; refine W.regionL (by decide +kernel) rfl ?_; apply r_boxF; exact rfl; exact rfl; exact rfl; (conv => (lhs; whnf)); exact rfl; apply r_op; exact rfl; exact rfl; apply a_assign; (conv => (lhs; whnf)); (with_reducible refine runs_done ?_); refine W.seq ?_; refine W.regionL (by decide +kernel) rfl ?_; apply r_allocN; exact rfl; exact rfl; decide; infer_instance; exact rfl; exact rfl
  intro b1 hb1; (with_reducible refine runs_done ?_); refine W.seq ?_; refine W.regionL (by decide +kernel) rfl ?_; apply r_op; exact rfl; exact rfl; exact a_makeFunc rfl rfl; apply r_op; exact rfl; exact rfl; apply a_assign; (conv => (lhs; whnf)); (with_reducible refine runs_done ?_); refine W.seq ?_; refine W.seq ?_; refine W.regionL (by decide +kernel) rfl ?_; apply r_op; exact rfl; exact rfl
  apply g_fieldAddr; exact a_fieldAddr1 rfl (by decide) rfl; apply r_op; exact rfl; exact rfl; apply g_load; exact a_load1 rfl rfl; apply r_op; exact rfl; exact rfl; apply g_call; exact a_len_slc rfl; apply r_op; exact rfl; exact rfl; apply g_binOp; exact a_binI rfl rfl rfl; (with_reducible refine runs_done ?_)
  rename Nat => bo
  have hbo : σ.box bo = none := hb1
  have hmo : Moves (σ.setBox bo [.slc 2 (([] : List Row).map eRow) .full]) .full (σ.setBox bo [.slc 2 [] .full]) .full := Moves.full _
  have hlo : ([] : List Row).length ≤ 1000000 := by simp
  refine W.meet (fun E s => ∃ tk, Moves (σ.setBox bo [.slc 2 ((preR x).map eRow) tk]) .full s tk ∧ Has [(1, .vp (eSub x)), (3, .ptr bo 0), (4, .fn (.func 34) [] [.ptr bo 0, .vp (eSub x)])] E) ?_ ?_
  · refine W.cond rfl (fun hc => ?_) (fun hc => ?_)
    · have hne : x.acks ≠ [] := by rintro e; simp [e] at hc
      refine W.seq ?_; refine W.regionL (by decide +kernel) rfl ?_; apply r_allocN; exact rfl; exact rfl; decide; infer_instance; exact rfl; exact rfl; intro b1 hb1; (with_reducible refine runs_done ?_); refine W.seq ?_; refine W.regionL (by decide +kernel) rfl ?_; apply r_op; exact rfl; exact rfl; apply g_fieldAddr; exact a_fieldAddr1 rfl (by decide) rfl; apply r_op; exact rfl; exact rfl
      apply g_load; exact a_load1 rfl rfl; apply r_op; exact rfl; exact rfl; apply g_call; exact a_len_slc rfl; apply r_op; exact rfl; exact rfl; apply g_buildSlice; apply a_build1; (conv => (lhs; whnf)); exact rfl; exact rfl; decide; apply r_callB; exact rfl; exact rfl; decide; exact rfl; exact rfl; exact rfl; infer_instance; exact writerNum w0 (acc := []) [_] (Moves.full _) (by simp) (by simp)
      intro tk1 σ1 hm; (with_reducible refine runs_done ?_); refine W.seq ?_; refine W.regionL (by decide +kernel) rfl ?_; apply r_op; exact rfl; exact rfl; apply g_fieldAddr; exact a_fieldAddr1 rfl (by decide) rfl; apply r_op; exact rfl; exact rfl; apply g_load; exact a_load1 rfl rfl; apply r_op; exact rfl; exact rfl; apply a_assign; (conv => (lhs; whnf)); (with_reducible refine runs_done ?_)
      refine W.seq ?_; refine W.seq ?_; refine W.regionL (by decide +kernel) rfl ?_; apply r_op; exact rfl; exact rfl; apply g_fieldAddr; exact a_fieldAddr1 rfl (by decide) rfl; apply r_op; exact rfl; exact rfl; apply g_load; exact a_load1 rfl rfl; apply r_op; exact rfl; exact rfl; apply g_call; exact a_len_slc rfl; apply r_op; exact rfl; exact rfl; apply a_move; (conv => (lhs; whnf))
      (with_reducible refine runs_done ?_); refine W.block ?_
      generalize hS : σ.setBox bo [.slc 2 [] .full] = S at *
      rename Nat => bw
      refine W.loop (fun k E s => ∃ (i : Nat) (acc : List UInt8) (last : Int) (tk : Tok), i ≤ x.acks.length ∧ k = x.acks.length - i ∧ acc.length ≤ 8 + 8 * i ∧ acc ++ gapsB last (x.acks.drop i) = acksB x ∧ Moves (S.setBox bw [.slc 1 (aBytes acc) tk]) .full s tk ∧ Has [(1, .vp (eSub x)), (3, .ptr bo 0), (4, .fn (.func 34) [] [.ptr bo 0, .vp (eSub x)]), (5, .ptr bw 0), (6, .int .i64 last), (26, eInts x.acks), (27, .int .i64 x.acks.length), (28, .int .i64 i)] E) x.acks.length ⟨0, num x.acks.length, x.floor, tk1, Nat.zero_le _, rfl, by have := num_len x.acks.length; omega, rfl, ?_, ?_⟩ ?_
      · simpa [numsB] using hm
      · rw [List.length_map]
        exact Has.by (by repeat (first | exact trivial | refine ⟨by first | trivial | exact Weak.refl _ | exact Weak.tok _ _ _ | exact Weak.of_eq (congrArg (AV.int _) (by omega)) | exact Weak.nils _ _ (.inr rfl), ?_⟩))
      · rintro k E s ⟨i, acc, last, tk, hi, rfl, hlen, hacc, hm, hE⟩
        refine W.has hE ?_; clear hE
        have hna := hx.nacks
        have hq : acc.length ≤ 1000000 := by omega
        refine W.seq ?_; refine W.regionL (by decide +kernel) rfl ?_; apply r_op; exact rfl; exact rfl; apply g_binOp; exact a_binI rfl rfl rfl; (with_reducible refine runs_done ?_); refine W.seq ?_; refine W.cond rfl (fun hc => ?_) (fun hc => ?_)
        · have hlt : i < x.acks.length := by simp at hc; omega
          have ga : x.acks[i]? = some x.acks[i] := by simp [hlt]
          have hd := gapsB_drop ga last
          have h8 := num_len (w64 (x.acks[i] - last))
          generalize x.acks[i] = a at ga hd h8
          refine W.skip ?_; show W _ _ _ _ _ _ _; refine W.seq ?_; refine W.block ?_; refine W.seq ?_; refine W.regionL (by decide +kernel) rfl ?_; apply r_op; exact rfl; exact rfl; apply g_indexAddr; exact a_indexAddr rfl rfl (by decide) (by omega) (by exact get_map (by assumption)); apply r_op; exact rfl; exact rfl; apply g_load; exact a_load1 rfl rfl; apply r_op; exact rfl; exact rfl
          apply a_assign; (conv => (lhs; whnf)); (with_reducible refine runs_done ?_); refine W.seq ?_; refine W.regionL (by decide +kernel) rfl ?_; apply r_op; exact rfl; exact rfl; apply a_move; (conv => (lhs; whnf)); apply r_op; exact rfl; exact rfl; apply a_move; (conv => (lhs; whnf)); apply r_op; exact rfl; exact rfl; apply g_binOp; exact a_binI rfl rfl rfl; apply r_op; exact rfl; exact rfl
          apply g_buildSlice; apply a_build1; (conv => (lhs; whnf)); exact rfl; exact rfl; decide; apply r_callB; exact rfl; exact rfl; decide; exact rfl; exact rfl; exact rfl; infer_instance; exact writerNum w0 [_] (by assumption) (by exact Nat.le_trans (by assumption) (by omega)) (by simp); intro tk1 σ1 hm; (with_reducible refine runs_done ?_); refine W.regionL (by decide +kernel) rfl ?_
          apply r_op; exact rfl; exact rfl; apply a_move; (conv => (lhs; whnf)); apply r_op; exact rfl; exact rfl; apply a_assign; (conv => (lhs; whnf)); (with_reducible refine runs_done ?_); refine W.regionL (by decide +kernel) rfl ?_; apply r_op; exact rfl; exact rfl; apply g_binOp; exact a_add64 rfl rfl (by omega); apply r_op; exact rfl; exact rfl; apply a_move; (conv => (lhs; whnf))
          (with_reducible refine runs_done ?_)
          exact ⟨x.acks.length - (i + 1), by omega, i + 1, acc ++ numsB [w64 (a - last)], a, tk1, by omega, rfl, by simp [numsB]; omega, by rw [← hacc, hd]; simp [numsB], hm, by exact Has.by (by repeat (first | exact trivial | refine ⟨by first | trivial | exact Weak.refl _ | exact Weak.tok _ _ _ | exact Weak.of_eq (congrArg (AV.int _) (by omega)) | exact Weak.nils _ _ (.inr rfl), ?_⟩))⟩
        · have hge : i = x.acks.length := by simp at hc; omega
          rw [hge, List.drop_length, gapsB, List.append_nil] at hacc
          subst hacc
          refine W.exit ?_; show W _ _ _ _ _ _ _; refine W.regionL (by decide +kernel) rfl ?_; apply r_op; exact rfl; exact rfl; apply a_move; (conv => (lhs; whnf)); apply r_load; exact rfl; exact rfl; exact rfl; decide; exact rfl; apply hb_moves (by assumption); exact setBox_same; exact aLoad1 rfl; apply r_callB; exact rfl; exact rfl; decide; exact rfl; exact rfl; exact rfl; infer_instance
          exact lay_any w0 hL (t := 97) (Moves.more (by assumption) (Moves.in (by assumption) (by assumption))) (by assumption); intro tk1 σ1 hm; (with_reducible refine runs_done ?_)
          rw [preR, if_neg hne]
          exact ⟨tk1, hm, by exact Has.by (by repeat (first | exact trivial | refine ⟨by first | trivial | exact Weak.refl _ | exact Weak.tok _ _ _ | exact Weak.of_eq (congrArg (AV.int _) (by omega)) | exact Weak.nils _ _ (.inr rfl), ?_⟩))⟩
    · have hne : x.acks = [] := by simpa using hc
      refine W.skip ?_
      rw [preR, if_pos hne]
      exact ⟨.full, hmo, by exact Has.by (by repeat (first | exact trivial | refine ⟨by first | trivial | exact Weak.refl _ | exact Weak.tok _ _ _ | exact Weak.of_eq (congrArg (AV.int _) (by omega)) | exact Weak.nils _ _ (.inr rfl), ?_⟩))⟩
  · rintro E s ⟨tk, hm, hE⟩
    refine W.has hE ?_; clear hE; refine W.seq ?_; refine W.seq ?_; refine W.regionL (by decide +kernel) rfl ?_; apply r_op; exact rfl; exact rfl; apply g_fieldAddr; exact a_fieldAddr1 rfl (by decide) rfl; apply r_op; exact rfl; exact rfl; apply g_load; exact a_load1 rfl rfl; apply r_op; exact rfl; exact rfl; apply g_call; exact a_len_slc rfl; apply r_op; exact rfl; exact rfl; apply a_move
    (conv => (lhs; whnf)); (with_reducible refine runs_done ?_); refine W.block ?_
    refine W.loop (fun k E s => ∃ (i : Nat) (tk : Tok), i ≤ x.queue.length ∧ k = x.queue.length - i ∧ Moves (σ.setBox bo [.slc 2 ((preR x ++ (x.queue.take i).map (msgRow x.id)).map eRow) tk]) .full s tk ∧ Has [(1, .vp (eSub x)), (3, .ptr bo 0), (4, .fn (.func 34) [] [.ptr bo 0, .vp (eSub x)]), (43, eMsgs x.queue), (44, .int .i64 x.queue.length), (45, .int .i64 i)] E) x.queue.length ⟨0, tk, Nat.zero_le _, rfl, by rw [List.take_zero, List.map_nil, List.append_nil]; exact hm, ?_⟩ ?_
    · rw [List.length_map]
      exact Has.by (by repeat (first | exact trivial | refine ⟨by first | trivial | exact Weak.refl _ | exact Weak.tok _ _ _ | exact Weak.of_eq (congrArg (AV.int _) (by omega)) | exact Weak.nils _ _ (.inr rfl), ?_⟩))
    · rintro k E s ⟨i, tk, hi, rfl, hm, hE⟩
      refine W.has hE ?_; clear hE
      have hp := preR_len x
      have hnq := hx.nqueue
      have htk := List.length_take_le i x.queue
      have hlo : (preR x ++ (x.queue.take i).map (msgRow x.id)).length ≤ 1000000 := by simp; omega
      refine W.seq ?_; refine W.regionL (by decide +kernel) rfl ?_; apply r_op; exact rfl; exact rfl; apply g_binOp; exact a_binI rfl rfl rfl; (with_reducible refine runs_done ?_); refine W.seq ?_; refine W.cond rfl (fun hc => ?_) (fun hc => ?_)
      · have hlt : i < x.queue.length := by simp at hc; omega
        have ga : x.queue[i]? = some x.queue[i] := by simp [hlt]
        have hd := map_take_snoc (msgRow x.id) ga
        obtain ⟨hb1, hb2⟩ := hx.queue _ (List.mem_of_getElem? ga)
        generalize x.queue[i] = m at ga hd hb1 hb2
        refine W.skip ?_; show W _ _ _ _ _ _ _; refine W.seq ?_; refine W.block ?_; refine W.seq ?_; refine W.regionL (by decide +kernel) rfl ?_; apply r_op; exact rfl; exact rfl; apply g_indexAddr; exact a_indexAddr rfl rfl (by decide) (by omega) (by exact get_map (by assumption)); apply r_op; exact rfl; exact rfl; apply g_load; exact a_loadA rfl (by rfl) rfl; apply r_alloc; exact rfl; exact rfl
        decide; exact rfl; (conv => (lhs; whnf)); intro b1 hb1; apply r_store; exact rfl; exact rfl; exact rfl; decide; infer_instance; exact rfl; exact setBox_same; (conv => (lhs; whnf)); exact rfl; (conv => (lhs; whnf)); exact rfl; exact of_decide_eq_true rfl; exact setL_whole rfl; refine runs_done ?_; show W _ _ _ _ _ _ _; refine W.freeze1 10 (eMsg m) (by assumption) rfl rfl rfl ?_
        refine W.seq ?_; refine W.regionL (by decide +kernel) rfl ?_; apply r_allocN; exact rfl; exact rfl; decide; infer_instance; exact rfl; exact rfl; intro b1 hb1; (with_reducible refine runs_done ?_); refine W.seq ?_; refine W.regionL (by decide +kernel) rfl ?_; apply r_op; exact rfl; exact rfl; apply g_fieldAddr; exact a_fieldAddr1 rfl (by decide) rfl; apply r_op; exact rfl; exact rfl
        apply g_load; exact a_load1 rfl rfl; apply r_op; exact rfl; exact rfl; apply g_fieldAddr; exact a_fieldAddr1 rfl (by decide) rfl; apply r_op; exact rfl; exact rfl; apply g_load; exact a_load1 rfl rfl; apply r_op; exact rfl; exact rfl; apply g_buildSlice; apply a_buildN; apply EvP.cons (by (conv => (lhs; whnf))); apply EvP.cons (by (conv => (lhs; whnf))); exact EvP.nil; (conv => (lhs; whnf))
        exact rfl; exact rfl; decide; apply r_callB; exact rfl; exact rfl; decide; exact rfl; exact rfl; exact rfl; infer_instance; exact writerText w0 (acc := []) [_, _] (Moves.full _) (by simp) (by simp) (by exact all2 (by assumption) (by assumption)); intro tk1 σ1 hm; (with_reducible refine runs_done ?_); refine W.seq ?_
        refine W.regionDK 0 [36] Ty.mixed (by decide +kernel) (by decide +kernel) rfl ?_; apply r_op; exact rfl; exact rfl; apply g_fieldAddr; exact a_fieldAddr1 rfl (by decide) rfl; apply r_op; exact rfl; exact rfl; apply g_load; exact a_load1 rfl rfl; apply r_op; exact rfl; exact rfl; apply g_fieldAddr; exact a_fieldAddr1 rfl (by decide) rfl; apply r_op; exact rfl; exact rfl
        apply g_load; exact a_load1 rfl rfl; apply r_op; exact rfl; exact rfl; apply g_fieldAddr; exact a_fieldAddr1 rfl (by decide) rfl; apply r_op; exact rfl; exact rfl; apply g_load; exact a_load1 rfl rfl; apply r_op; exact rfl; exact rfl; apply g_load; exact a_loadA rfl (by rfl) rfl; apply r_callP; exact rfl; exact rfl; exact rfl; exact rfl; exact rfl; infer_instance; exact death_any w0 _
        apply r_op; exact rfl; exact rfl; apply g_buildSlice; apply a_buildN; apply EvP.cons (by (conv => (lhs; whnf))); apply EvP.cons (by (conv => (lhs; whnf))); apply EvP.cons (by (conv => (lhs; whnf))); apply EvP.cons (by (conv => (lhs; whnf))); exact EvP.nil; (conv => (lhs; whnf)); exact rfl; exact rfl; decide; apply r_callB; exact rfl; exact rfl; decide; exact rfl; exact rfl; exact rfl
        infer_instance
        exact writerNum w0 [_, _, _, _] (by assumption) (by exact Nat.le_trans (by exact bd_txts _ (by exact all2 (by assumption) (by assumption))) (by simp only [List.length_cons, List.length_nil]; omega)) (by simp)
        intro tk1 σ1 hm; (with_reducible refine runs_done ?_); refine W.regionL (by decide +kernel) rfl ?_; apply r_op; exact rfl; exact rfl; apply a_move; (conv => (lhs; whnf)); apply r_op; exact rfl; exact rfl; apply g_fieldAddr; exact a_fieldAddr1 rfl (by decide) rfl; apply r_op; exact rfl; exact rfl; apply g_load; exact a_load1 rfl rfl; apply r_load; exact rfl; exact rfl; exact rfl; decide
        exact rfl; apply hb_moves (by assumption); exact setBox_same; exact aLoad1 rfl; apply r_callB; exact rfl; exact rfl; decide; exact rfl; exact rfl; exact rfl; infer_instance; exact lay_any w0 hL (t := 113) (Moves.more (by assumption) (Moves.in (by assumption) (by assumption))) (by assumption); intro tk1 σ1 hm; (with_reducible refine runs_done ?_); refine W.regionL (by decide +kernel) rfl ?_
        apply r_op; exact rfl; exact rfl; apply g_binOp; exact a_add64 rfl rfl (by omega); apply r_op; exact rfl; exact rfl; apply a_move; (conv => (lhs; whnf)); (with_reducible refine runs_done ?_)
        refine ⟨x.queue.length - (i + 1), by omega, i + 1, tk1, by omega, rfl, ?_, by exact Has.by (by repeat (first | exact trivial | refine ⟨by first | trivial | exact Weak.refl _ | exact Weak.tok _ _ _ | exact Weak.of_eq (congrArg (AV.int _) (by omega)) | exact Weak.nils _ _ (.inr rfl), ?_⟩))⟩
        have e : msgRow x.id m = ⟨rkey 3 113 x.id m.seq, [] ++ txtsB [m.body, m.attr] ++ numsB [m.tries, m.until_, m.prio, deathN m]⟩ := by simp [msgRow, msgB, txtsB, numsB]
        rw [hd, ← List.append_assoc, e]
        exact hm
      · have hge : i = x.queue.length := by simp at hc; omega
        rw [hge, List.take_length] at hm hlo
        obtain ⟨hs1, hs2, hs3, hs4⟩ := And.intro hx.name (And.intro hx.topic (And.intro hx.want hx.note))
        refine W.exit ?_; show W _ _ _ _ _ _ _; refine W.seq ?_; refine W.regionL (by decide +kernel) rfl ?_; apply r_allocN; exact rfl; exact rfl; decide; infer_instance; exact rfl; exact rfl; intro b1 hb1; (with_reducible refine runs_done ?_); refine W.seq ?_; refine W.regionL (by decide +kernel) rfl ?_; apply r_op; exact rfl; exact rfl; apply g_fieldAddr; exact a_fieldAddr1 rfl (by decide) rfl
        apply r_op; exact rfl; exact rfl; apply g_load; exact a_load1 rfl rfl; apply r_op; exact rfl; exact rfl; apply g_fieldAddr; exact a_fieldAddr1 rfl (by decide) rfl; apply r_op; exact rfl; exact rfl; apply g_load; exact a_load1 rfl rfl; apply r_op; exact rfl; exact rfl; apply g_fieldAddr; exact a_fieldAddr1 rfl (by decide) rfl; apply r_op; exact rfl; exact rfl; apply g_load
        exact a_load1 rfl rfl; apply r_op; exact rfl; exact rfl; apply g_buildSlice; apply a_buildN; apply EvP.cons (by (conv => (lhs; whnf))); apply EvP.cons (by (conv => (lhs; whnf))); apply EvP.cons (by (conv => (lhs; whnf))); exact EvP.nil; (conv => (lhs; whnf)); exact rfl; exact rfl; decide; apply r_callB; exact rfl; exact rfl; decide; exact rfl; exact rfl; exact rfl; infer_instance
        exact writerText w0 (acc := []) [_, _, _] (Moves.full _) (by simp) (by simp) (by exact all3 (by assumption) (by assumption) (by assumption)); intro tk1 σ1 hm; (with_reducible refine runs_done ?_); refine W.seq ?_; refine W.regionL (by decide +kernel) rfl ?_; apply r_op; exact rfl; exact rfl; apply g_fieldAddr; exact a_fieldAddr1 rfl (by decide) rfl; apply r_op; exact rfl; exact rfl
        apply g_load; exact a_load1 rfl rfl; apply r_op; exact rfl; exact rfl; apply g_fieldAddr; exact a_fieldAddr1 rfl (by decide) rfl; apply r_op; exact rfl; exact rfl; apply g_load; exact a_load1 rfl rfl; apply r_op; exact rfl; exact rfl; apply g_fieldAddr; exact a_fieldAddr1 rfl (by decide) rfl; apply r_op; exact rfl; exact rfl; apply g_load; exact a_load1 rfl rfl; apply r_op; exact rfl
        exact rfl; apply g_buildSlice; apply a_buildN; apply EvP.cons (by (conv => (lhs; whnf))); apply EvP.cons (by (conv => (lhs; whnf))); apply EvP.cons (by (conv => (lhs; whnf))); exact EvP.nil; (conv => (lhs; whnf)); exact rfl; exact rfl; decide; apply r_callB; exact rfl; exact rfl; decide; exact rfl; exact rfl; exact rfl; infer_instance
        exact writerNum w0 [_, _, _] (by assumption) (by exact Nat.le_trans (by exact bd_txts _ (by exact all3 (by assumption) (by assumption) (by assumption))) (by simp only [List.length_cons, List.length_nil]; omega)) (by simp)
        intro tk1 σ1 hm; (with_reducible refine runs_done ?_); refine W.seq ?_; refine W.regionL (by decide +kernel) rfl ?_; apply r_op; exact rfl; exact rfl; apply g_fieldAddr; exact a_fieldAddr1 rfl (by decide) rfl; apply r_op; exact rfl; exact rfl; apply g_load; exact a_load1 rfl rfl; apply r_op; exact rfl; exact rfl; apply g_buildSlice; apply a_build1; (conv => (lhs; whnf)); exact rfl; exact rfl
        decide; apply r_callB; exact rfl; exact rfl; decide; exact rfl; exact rfl; exact rfl; infer_instance
        exact writerText w0 [_] (by assumption) (by exact Nat.le_trans (by apply bd_app; exact bd_txts _ (by exact all3 (by assumption) (by assumption) (by assumption)); exact bd_nums _) (by simp only [List.length_cons, List.length_nil]; omega)) (by simp) (by exact all1 (by assumption))
        intro tk1 σ1 hm; (with_reducible refine runs_done ?_); refine W.seq ?_; refine W.regionL (by decide +kernel) rfl ?_; apply r_op; exact rfl; exact rfl; apply a_move; (conv => (lhs; whnf)); apply r_load; exact rfl; exact rfl; exact rfl; decide; exact rfl; apply hb_moves (by assumption); exact setBox_same; exact aLoad1 rfl; apply r_callB; exact rfl; exact rfl; decide; exact rfl; exact rfl
        exact rfl; infer_instance; exact lay_any w0 hL (t := 115) (Moves.more (by assumption) (Moves.in (by assumption) (by assumption))) (by assumption); intro tk1 σ1 hm; (with_reducible refine runs_done ?_); refine W.seq ?_; refine W.regionL (by decide +kernel) rfl ?_; apply r_load; exact rfl; exact rfl; exact rfl; decide; exact rfl; apply hb_moves (by assumption); exact setBox_same
        exact aLoad1 rfl; apply r_op; exact rfl; exact rfl; apply a_assign; (conv => (lhs; whnf)); (with_reducible refine runs_done ?_); refine W.ret ?_; show Q Exit.ret _ _; refine post_p hQ rfl rfl ?_; refine ⟨tk1, ?_, hm.in hbo⟩
        rw [enc3_eq]
        show AV.slc 2 (List.map eRow (preR x ++ List.map (msgRow x.id) x.queue ++ [{ key := rkey 3 115 x.id 0, val := [] ++ txtsB [x.name, x.topic, x.want] ++ numsB [x.lease, x.most, x.floor] ++ txtsB [x.note] }])) tk1 = _
        congr 5
        simp [txtsB, numsB, subB]
end Go.Proofs.YtkbmkhhcppfcnaaDoor
end
section
set_option linter.unusedVariables false
set_option linter.unusedSimpArgs false
namespace Go.Proofs.YtkbmkhhcppfcnaaDoor
open Go.Al
theorem dRows_app (l m : List Row) : ∀ i, i ≤ l.length → dRows (l ++ m) i = dRows l i
  | 0, _ => rfl
  | i + 1, h => by
    rw [dRows, dRows, dRows_app l m i (by omega), List.getElem?_append_left (by omega), List.getElem?_append_left (by omega)]
theorem dRows_snoc (l : List Row) (r : Row) (h : Up (l ++ [r])) : dRows (l ++ [r]) (l ++ [r]).length = { (dRow (dRows l l.length) r).1 with good := (dRows l l.length).good && (dRow (dRows l l.length) r).2.isNone } := by
  have hl : (l ++ [r]).length = l.length + 1 := by simp
  rw [hl, dRows, dRows_app l [r] _ (Nat.le_refl _)]
  have hr : (l ++ [r])[l.length]? = some r := by simp
  rw [hr, dStep]
  have hg : (decide (l.length = 0) || gtS r.key (((l ++ [r])[l.length - 1]?).getD ⟨[], []⟩).key) = true := by
    by_cases h0 : l.length = 0
    · simp [h0]
    · obtain ⟨j, hj⟩ : ∃ j, l.length = j + 1 := ⟨l.length - 1, by omega⟩
      have h1 : (l ++ [r])[j]? = some (l[j]'(by omega)) := by rw [List.getElem?_append_left (by omega)]; simp
      have h2 := h.get h1 (by rw [← hj]; exact hr)
      rw [show l.length - 1 = j by omega, h1]
      simp [gtS_of h2]
  rw [show (((some r : Option Row)).getD ⟨[], []⟩) = r from rfl, hg]
  simp
def diffs (lo : Int) : List Int → List Int
  | [] => []
  | a :: l => ((clampN (w64 (a - lo)) : Nat) : Int) :: diffs a l
theorem rGaps_at {v : List UInt8} : ∀ (l : List Int) (lo : Int) (a : Nat) (acc : List Int) (rest : List UInt8), At v a (gapsB lo l ++ rest) → rGaps v l.length a none acc = (acc ++ diffs lo l, none)
  | [], lo, a, acc, rest, h => by simp [rGaps, diffs]
  | b :: l, lo, a, acc, rest, h => by
    rw [gapsB, List.append_assoc] at h
    obtain ⟨h1, h2⟩ := rNum_at h
    rw [List.length_cons, rGaps, if_pos rfl, h1]
    dsimp only
    rw [rGaps_at l b _ _ rest h2, diffs, List.append_assoc]; rfl
theorem runUp_diffs : ∀ (l : List Int) (lo : Int) (n : Nat), 0 ≤ lo → Rise lo l → (∀ a ∈ l, a < n) → n ≤ 9007199254740992 → runUp lo (diffs lo l) = l
  | [], _, _, _, _, _, _ => rfl
  | a :: l, lo, n, h0, h, hh, hn => by
    have h1 := h.1
    have h2 := hh a (by simp)
    have h3 : w64 (a - lo) = a - lo := Go.IntWalk.i64_in _ (by omega)
    have h4 : ((clampN (a - lo) : Nat) : Int) = a - lo := clampN_53 ⟨by omega, by omega⟩
    have h5 : w64 (lo + (a - lo)) = a := by rw [show lo + (a - lo) = a by omega]; exact Go.IntWalk.i64_in _ (by omega)
    rw [diffs, runUp, h3, h4, h5, runUp_diffs l a n (by omega) h.2 (fun x hx => hh x (by simp [hx])) hn]
theorem at_self (v : List UInt8) : At v 0 (v ++ []) := by rw [List.append_nil]; exact at_start v
theorem death_whole {c mo le : Int} {m : Msg} (h : MsgOk c mo le m) : decide ((0 : Int) < ((clampN (deathN m) : Nat) : Int)) = m.dead ∧ whyN (min (clampN (deathN m)) 2) = m.why := by
  rcases h.st with ⟨h1, h2, _⟩ | ⟨h1, h2, _⟩ | ⟨h1, _, _, h2⟩
  · have e : deathN m = 0 := by rw [deathN, if_pos h1]
    rw [e, h1, h2]; exact ⟨by decide, by decide⟩
  · have e : deathN m = 0 := by rw [deathN, if_pos h1]
    rw [e, h1, h2]; exact ⟨by decide, by decide⟩
  · rcases h2 with h2 | h2
    · have e : deathN m = 1 := by rw [deathN, if_neg (by rw [h1]; decide), if_pos h2]
      rw [e, h1, h2]; exact ⟨by decide, by decide⟩
    · have e : deathN m = 2 := by rw [deathN, if_neg (by rw [h1]; decide), if_neg (by rw [h2]; decide)]
      rw [e, h1, h2]; exact ⟨by decide, by decide⟩
structure MsgFit (m : Msg) : Prop where
  tries : n53 m.tries
  until_ : n53 m.until_
  prio : n53 m.prio
theorem MsgOk.fit {c mo le : Int} {m : Msg} (h : MsgOk c mo le m) (hc : 0 ≤ c ∧ c ≤ 1000000000000000) (hm : 1 ≤ mo ∧ mo ≤ 9) (hl : 1 ≤ le ∧ le ≤ 1000) : MsgFit m := by
  have hp := h.prio
  rcases h.st with ⟨h1, h2, h3, h4⟩ | ⟨h1, h2, h3, h4⟩ | ⟨h1, h3, h4, h2⟩ <;> exact ⟨⟨by omega, by omega⟩, ⟨by omega, by omega⟩, ⟨by omega, by omega⟩⟩
theorem rMsg_back {c mo le : Int} {m : Msg} (h : MsgOk c mo le m) (hf : MsgFit m) : rMsg m.seq (msgB m) 0 none = (m, (msgB m).length, none) := by
  have h0 := at_self (msgB m)
  have e : msgB m ++ [] = txt m.body ++ (txt m.attr ++ (num m.tries ++ (num m.until_ ++ (num m.prio ++ (num (deathN m) ++ []))))) := by simp [msgB]
  rw [e] at h0
  obtain ⟨r1, h1⟩ := rText_at h0 h.body (by decide)
  obtain ⟨r2, h2⟩ := rText_at h1 h.alen (by decide)
  obtain ⟨r3, h3⟩ := rNum_at h2
  obtain ⟨r4, h4⟩ := rNum_at h3
  obtain ⟨r5, h5⟩ := rNum_at h4
  obtain ⟨r6, h6⟩ := rNum_at h5
  obtain ⟨d1, d2⟩ := death_whole h
  simp only [rMsg, r1, r2, r3, r4, r5, r6]
  rw [clampN_53 hf.tries, clampN_53 hf.until_, clampN_53 hf.prio, d1, d2]
  refine Prod.ext rfl (Prod.ext ?_ rfl)
  simp [msgB]; omega
theorem rSub_back {id clock next : Nat} {x : Sub} (h : Grown id clock next x) (hn : next ≤ 1000000000) (y : Sub) : rSub y (subB x) = ({ y with name := x.name, topic := x.topic, want := x.want, lease := x.lease, most := x.most, floor := x.floor, note := x.note }, none) := by
  have h0 := at_self (subB x)
  have e : subB x ++ [] = txt x.name ++ (txt x.topic ++ (txt x.want ++ (num x.lease ++ (num x.most ++ (num x.floor ++ (txt x.note ++ [])))))) := by simp [subB]
  rw [e] at h0
  have hm := h.most
  have hl := h.lease
  have hf := h.floor
  obtain ⟨r1, h1⟩ := rText_at h0 (show x.name.length ≤ 30 by have := h.nlen; omega) (by decide)
  obtain ⟨r2, h2⟩ := rText_at h1 h.topic.len (by decide)
  obtain ⟨r3, h3⟩ := rText_at h2 h.want.len (by decide)
  obtain ⟨r4, h4⟩ := rNum_at h3
  obtain ⟨r5, h5⟩ := rNum_at h4
  obtain ⟨r6, h6⟩ := rNum_at h5
  obtain ⟨r7, h7⟩ := rText_at h6 h.note (by decide)
  simp only [rSub, r1, r2, r3, r4, r5, r6, r7]
  rw [clampN_53 (n := x.lease) ⟨by omega, by omega⟩, clampN_53 (n := x.most) ⟨by omega, by omega⟩, clampN_53 (n := x.floor) ⟨by omega, by omega⟩]
theorem up_take {l m : List Row} (h : Up (l ++ m)) : Up l := (List.pairwise_append.1 h).1
theorem dRows_back {id clock next : Nat} {x : Sub} (h : Grown id clock next x) (hc : clock ≤ 1000000000) (hid : id ≤ 1000000000) (hn : next ≤ 1000000000) : dRows (enc3 x) (enc3 x).length = ⟨{ x with acks := [] }, diffs x.floor x.acks, true⟩ := by
  have hup := enc3_up h (by omega)
  have hcl : ((cl x.id : Nat) : Int) = x.id := cl_nn (by have := h.id; omega)
  -- the acknowledgements' row
  have h1 : dRows (preR x) (preR x).length = ⟨{ sub0 with id := if x.acks = [] then 0 else x.id }, diffs x.floor x.acks, true⟩ := by
    unfold preR
    split
    · rename_i h0; rw [h0]; rfl
    · have := dRows_snoc [] ⟨rkey 3 97 x.id 0, acksB x⟩ (.cons (by simp) .nil)
      rw [List.nil_append] at this
      rw [this, dRow]
      dsimp only
      rw [parts_rkey (by decide) (by decide)]
      dsimp only
      rw [if_pos rfl]
      have ha : At (acksB x) 0 (num x.acks.length ++ (gapsB x.floor x.acks ++ [])) := by rw [List.append_nil]; exact at_start _
      obtain ⟨r1, k1⟩ := rNum_at ha
      have hcn : clampN (x.acks.length : Int) = x.acks.length := by have := h.nacks; unfold clampN; omega
      rw [r1, hcn]
      dsimp only
      rw [rGaps_at x.acks x.floor _ _ [] k1, hcl]
      rfl
  -- the queue's rows
  have h2 : ∀ j, j ≤ x.queue.length → ∃ i, dRows (preR x ++ (x.queue.take j).map (msgRow x.id)) (preR x ++ (x.queue.take j).map (msgRow x.id)).length = ⟨{ sub0 with id := i, queue := x.queue.take j }, diffs x.floor x.acks, true⟩ := by
    intro j
    induction j with
    | zero =>
      intro _
      refine ⟨if x.acks = [] then 0 else x.id, ?_⟩
      rw [List.take_zero, List.map_nil, List.append_nil, h1]
      rfl
    | succ j ih =>
      intro hj
      obtain ⟨i, hi⟩ := ih (by omega)
      have hq : x.queue.take (j + 1) = x.queue.take j ++ [x.queue[j]] := take_snoc (by simp [show j < x.queue.length by omega])
      have hm : x.queue[j] ∈ x.queue := List.getElem_mem _
      have hsp : x.queue = (x.queue.take j ++ [x.queue[j]]) ++ x.queue.drop (j + 1) := by rw [← hq, List.take_append_drop]
      generalize x.queue[j] = m at hq hm hsp
      generalize x.queue.drop (j + 1) = r at hsp
      rw [hq]
      generalize x.queue.take j = q at hi hq hsp
      have hok := h.msgs m hm
      have hsq : ((cl m.seq : Nat) : Int) = m.seq := by
        have h1 := h.qhigh m hm
        have h2 := h.qrise.lt m.seq (List.mem_map.2 ⟨m, hm, rfl⟩)
        have h3 := h.floor
        exact cl_nn ⟨by omega, by omega⟩
      have hupq : Up ((preR x ++ q.map (msgRow x.id)) ++ [msgRow x.id m]) := by
        have e : enc3 x = ((preR x ++ q.map (msgRow x.id)) ++ [msgRow x.id m]) ++ (r.map (msgRow x.id) ++ [⟨rkey 3 115 x.id 0, subB x⟩]) := by
          rw [enc3_eq]
          conv => lhs; rw [hsp]
          simp
        rw [e] at hup
        exact up_take hup
      refine ⟨x.id, ?_⟩
      have e2 : preR x ++ (q ++ [m]).map (msgRow x.id) = (preR x ++ q.map (msgRow x.id)) ++ [msgRow x.id m] := by simp
      have hp : parts (msgRow x.id m).key = ⟨3, 113, x.id, m.seq, true⟩ := by
        have := parts_rkey (v := 3) (by decide) (t := 113) (by decide) x.id m.seq
        rw [hcl, hsq] at this
        exact this
      have hmm := rMsg_back hok (hok.fit ⟨by omega, by omega⟩ h.most h.lease)
      have hstep : ∀ d : D3, dRow d (msgRow x.id m) = (⟨{ d.x with id := x.id, queue := d.x.queue ++ [m] }, d.gaps, d.good⟩, none) := fun d => by
        unfold dRow
        rw [hp]
        dsimp only
        rw [if_neg (show ¬ (113 : UInt8) = 97 by decide), if_pos rfl, show (msgRow x.id m).val = msgB m from rfl, hmm]
      rw [e2, dRows_snoc _ _ hupq, hi, hstep]
      rfl
  obtain ⟨i, hi⟩ := h2 x.queue.length (Nat.le_refl _)
  rw [List.take_length] at hi
  have hup' : Up ((preR x ++ x.queue.map (msgRow x.id)) ++ [⟨rkey 3 115 x.id 0, subB x⟩]) := by rw [← enc3_eq]; exact hup
  have hp : parts (rkey 3 115 x.id 0) = ⟨3, 115, x.id, 0, true⟩ := by
    have := parts_rkey (v := 3) (by decide) (t := 115) (by decide) x.id 0
    rw [hcl] at this
    exact this
  have hstep : ∀ d : D3, dRow d ⟨rkey 3 115 x.id 0, subB x⟩ = (⟨{ d.x with id := x.id, name := x.name, topic := x.topic, want := x.want, lease := x.lease, most := x.most, floor := x.floor, note := x.note }, d.gaps, d.good⟩, none) := fun d => by
    unfold dRow
    dsimp only
    rw [hp]
    dsimp only
    rw [if_neg (show ¬ (115 : UInt8) = 97 by decide), if_neg (show ¬ (115 : UInt8) = 113 by decide), if_pos rfl, rSub_back h hn]
  rw [enc3_eq, dRows_snoc _ _ hup', hi, hstep]
  rfl
theorem dec3_back {id clock next : Nat} {x : Sub} (h : Grown id clock next x) (hc : clock ≤ 1000000000) (hid : id ≤ 1000000000) (hn : next ≤ 1000000000) : dec3 (enc3 x) = (x, 0) := by
  have hr := dRows_back h hc hid hn
  have hs : dSub (enc3 x) = x := by
    rw [dSub, hr]
    dsimp only
    rw [runUp_diffs x.acks x.floor next h.floor.1 h.rise h.high (by omega)]
  rw [dec3, hs, hr, if_pos ⟨rfl, rfl⟩]
end Go.Proofs.YtkbmkhhcppfcnaaDoor
end
section
set_option linter.unusedVariables false
set_option linter.unusedSimpArgs false
namespace Go.Proofs.YtkbmkhhcppfcnaaDoor
open Go.Al
structure MsgG (m : Msg) : Prop where
  body : m.body.length ≤ 60
  attr : m.attr.length ≤ 30
  fit : MsgFit m
  dead : decide (((clampN (deadN m) : Nat) : Int) = 1) = m.dead
  why : whyN (min (clampN (deathN m)) 2) = m.why
  calm : m.dead = false → m.why = []
structure Good2 (x : Sub) : Prop where
  name : x.name.length ≤ 30
  topic : x.topic.length ≤ 30
  want : x.want.length ≤ 30
  note : x.note.length ≤ 30
  id : 0 ≤ x.id ∧ x.id ≤ 9999999999
  lease : n53 x.lease
  most : n53 x.most
  floor : n53 x.floor
  nacks : x.acks.length ≤ 100000
  rise : Rise x.floor x.acks
  high : ∀ a ∈ x.acks, a < (9999999999 : Nat)
  qrise : Rise x.floor (x.queue.map Msg.seq)
  qhigh : ∀ m ∈ x.queue, m.seq ≤ 9999999999
  msgs : ∀ m ∈ x.queue, MsgG m
theorem Grown.good2 {id clock next : Nat} {x : Sub} (h : Grown id clock next x) (hc : clock ≤ 1000000000) (hid : id ≤ 1000000000) (hn : next ≤ 1000000000) : Good2 x := by
  have h1 := h.id
  have h2 := h.lease
  have h3 := h.most
  have h4 := h.floor
  refine ⟨by have := h.nlen; omega, h.topic.len, h.want.len, h.note, by omega, ⟨by omega, by omega⟩, ⟨by omega, by omega⟩, ⟨by omega, by omega⟩, by have := h.nacks; omega, h.rise, fun a ha => by have := h.high a ha; omega, h.qrise, fun m hm => by have := h.qhigh m hm; omega, fun m hm => ?_⟩
  have hm := h.msgs m hm
  refine ⟨hm.body, hm.alen, hm.fit ⟨by omega, by omega⟩ h.most h.lease, ?_, (death_whole hm).2, fun hd => ?_⟩
  · unfold deadN
    cases m.dead <;> decide
  · rcases hm.st with ⟨_, h2, _⟩ | ⟨_, h2, _⟩ | ⟨h1, _⟩
    · exact h2
    · exact h2
    · rw [hd] at h1; cases h1
theorem n2_at {v : List UInt8} {a : Nat} {n : Int} {r : List UInt8} (h : At v a (num n ++ r)) : n2 v (a, false) = (clampN n, a + (num n).length, false) ∧ At v (a + (num n).length) r := by
  obtain ⟨g1, gp2⟩ := getNum_at h
  refine ⟨?_, gp2⟩
  rw [n2, g1, if_neg (by simp)]
theorem t2_at {v : List UInt8} {a most : Nat} {s : List UInt8} {r : List UInt8} (h : At v a (txt s ++ r)) (hs : s.length ≤ most) (hm : most ≤ 9007199254740992) : t2 v (a, false) most = (s, a + (txt s).length, false) ∧ At v (a + (txt s).length) r := by
  obtain ⟨g1, gp2⟩ := getText_at h hs hm
  refine ⟨?_, gp2⟩
  rw [t2, g1, if_neg (by simp)]
theorem g2_at {v : List UInt8} : ∀ (l : List Int) (lo : Int) (a : Nat) (acc : List Int) (rest : List UInt8), At v a (gapsB lo l ++ rest) → (gp2 v l.length (a, false) acc).1 = acc ++ diffs lo l
  | [], lo, a, acc, rest, h => by simp [gp2, diffs]
  | b :: l, lo, a, acc, rest, h => by
    rw [gapsB, List.append_assoc] at h
    obtain ⟨h1, h2⟩ := n2_at h
    rw [List.length_cons, gp2, if_neg (by simp), h1]
    dsimp only
    rw [g2_at l b _ _ rest h2, diffs, List.append_assoc]; rfl
theorem updF_past {s : Int} {f : Msg → Msg} : ∀ {l : List Msg} (r : List Msg), (∀ m ∈ l, m.seq ≠ s) → updF s f (l ++ r) = l ++ updF s f r
  | [], r, _ => rfl
  | m :: l, r, h => by
    rw [List.cons_append, updF, if_neg (h m (by simp)), updF_past r fun x hx => h x (by simp [hx])]; rfl
theorem seg_back (rows : Msg → List Row) (h h' : Msg → Msg) (f : Msg → Msg → Msg) (id : Int) : ∀ (q pre : List Msg) (y : Sub),
    (∀ m ∈ q, rows m = [] ∧ h m = h' m ∨ ∃ r, rows m = [r] ∧ (∀ z : Sub, add2 z r = { z with id := id, queue := updF m.seq (f m) z.queue }) ∧ f m (h m) = h' m) →
    (∀ m ∈ q, (h m).seq = m.seq ∧ (h' m).seq = m.seq) → (∀ a ∈ pre, ∀ m ∈ q, a.seq ≠ m.seq) → (q.map Msg.seq).Pairwise (· ≠ ·) → y.queue = pre ++ q.map h →
    ∃ i, (i = y.id ∨ i = id) ∧ (q.flatMap rows).foldl add2 y = { y with id := i, queue := pre ++ q.map h' }
  | [], pre, y, _, _, _, _, hy => ⟨y.id, .inl rfl, by cases y; simp at hy; simp [hy]⟩
  | m :: q, pre, y, hr, hs, hp, hd, hy => by
    have hm := hs m (by simp)
    have hne : ∀ a ∈ q, m.seq ≠ a.seq := fun a ha => by
      rw [List.map_cons, List.pairwise_cons] at hd
      exact hd.1 _ (List.mem_map.2 ⟨a, ha, rfl⟩)
    have hpre : ∀ a ∈ pre ++ [h' m], ∀ b ∈ q, a.seq ≠ b.seq := fun a ha b hb => by
      rcases List.mem_append.1 ha with ha | ha
      · exact hp a ha b (by simp [hb])
      · obtain rfl := List.mem_singleton.1 ha
        rw [hm.2]; exact hne b hb
    have hd' : (q.map Msg.seq).Pairwise (· ≠ ·) := by
      rw [List.map_cons, List.pairwise_cons] at hd; exact hd.2
    rw [List.flatMap_cons, List.foldl_append]
    rcases hr m (by simp) with ⟨h1, h2⟩ | ⟨r, h1, h2, h3⟩
    · rw [h1, List.foldl_nil]
      obtain ⟨i, hi, e⟩ := seg_back rows h h' f id q (pre ++ [h' m]) y (fun a ha => hr a (by simp [ha])) (fun a ha => hs a (by simp [ha])) hpre hd' (by rw [hy, h2.symm]; simp)
      exact ⟨i, hi, by rw [e]; simp⟩
    · rw [h1, List.foldl_cons, List.foldl_nil, h2 y]
      have hu : updF m.seq (f m) y.queue = (pre ++ [h' m]) ++ q.map h := by
        rw [hy, updF_past _ fun a ha => hp a ha m (by simp), List.map_cons, updF, if_pos hm.1, h3]; simp
      obtain ⟨i, hi, e⟩ := seg_back rows h h' f id q (pre ++ [h' m]) { y with id := id, queue := updF m.seq (f m) y.queue } (fun a ha => hr a (by simp [ha])) (fun a ha => hs a (by simp [ha])) hpre hd' hu
      refine ⟨i, .inr (by rcases hi with hi | hi <;> exact hi), by rw [e]; simp⟩
theorem Rise.apart : ∀ {l : List Int} {lo : Int}, Rise lo l → l.Pairwise (· ≠ ·)
  | [], _, _ => .nil
  | a :: l, lo, h => .cons (fun b hb => by have := h.2.lt b hb; omega) h.2.apart
def hb2 (m : Msg) : Msg := { msg0 m.seq with body := m.body }
def hq2 (m : Msg) : Msg := { m with prio := 0, why := [] }
theorem mB_at {m : Msg} (h : MsgG m) (z : Msg) : mB (txt m.body) z = { z with body := m.body } := by
  have h0 := at_self (txt m.body)
  rw [mB, (t2_at h0 h.body (by decide)).1]
theorem mQ_at {m : Msg} (h : MsgG m) (z : Msg) : mQ (qB2 m) z = { z with attr := m.attr, tries := m.tries, until_ := m.until_, dead := m.dead } := by
  have h0 := at_self (qB2 m)
  have e : qB2 m ++ [] = txt m.attr ++ (num m.tries ++ (num m.until_ ++ (num (deadN m) ++ []))) := by simp [qB2]
  rw [e] at h0
  obtain ⟨r1, h1⟩ := t2_at h0 h.attr (by decide)
  obtain ⟨r2, h2⟩ := n2_at h1
  obtain ⟨r3, h3⟩ := n2_at h2
  obtain ⟨r4, h4⟩ := n2_at h3
  simp only [mQ, r1, r2, r3, r4]
  rw [clampN_53 h.fit.tries, clampN_53 h.fit.until_, h.dead]
theorem mX_at {m : Msg} (h : MsgG m) (z : Msg) : mX (xB m) z = { z with prio := m.prio, why := m.why } := by
  have h0 := at_self (xB m)
  have e : xB m ++ [] = num m.prio ++ (num (deathN m) ++ []) := by simp [xB]
  rw [e] at h0
  obtain ⟨r1, h1⟩ := n2_at h0
  obtain ⟨r2, h2⟩ := n2_at h1
  simp only [mX, r1, r2]
  rw [clampN_53 h.fit.prio, h.why]
theorem sS_at {x : Sub} (h : Good2 x) (y : Sub) : sS (sB2 x) y = { y with name := x.name, topic := x.topic, want := x.want, lease := x.lease, most := x.most, floor := x.floor } := by
  have h0 := at_self (sB2 x)
  have e : sB2 x ++ [] = txt x.name ++ (txt x.topic ++ (txt x.want ++ (num x.lease ++ (num x.most ++ (num x.floor ++ []))))) := by simp [sB2]
  rw [e] at h0
  obtain ⟨r1, h1⟩ := t2_at h0 h.name (by decide)
  obtain ⟨r2, h2⟩ := t2_at h1 h.topic (by decide)
  obtain ⟨r3, h3⟩ := t2_at h2 h.want (by decide)
  obtain ⟨r4, h4⟩ := n2_at h3
  obtain ⟨r5, h5⟩ := n2_at h4
  obtain ⟨r6, h6⟩ := n2_at h5
  simp only [sS, r1, r2, r3, r4, r5, r6]
  rw [clampN_53 h.lease, clampN_53 h.most, clampN_53 h.floor]
theorem parts2 {t : UInt8} (ht : 97 ≤ t.toNat ∧ t.toNat ≤ 122) {id seq : Int} (h1 : 0 ≤ id ∧ id ≤ 9999999999) (h2 : 0 ≤ seq ∧ seq ≤ 9999999999) : parts (rkey 2 t id seq) = ⟨2, t, id, seq, true⟩ := by
  have := parts_rkey (v := 2) (by decide) ht id seq
  rw [cl_nn h1, cl_nn h2] at this
  exact this
theorem flat1 {α β : Type} (f : α → β) : ∀ l : List α, l.map f = l.flatMap fun a => [f a]
  | [] => rfl
  | a :: l => by rw [List.map_cons, flat1 f l]; rfl
theorem rows2_back {x : Sub} (h : Good2 x) : rows2 (enc2 x) = { x with acks := diffs x.floor x.acks } := by
  have hseq : ∀ m ∈ x.queue, 0 ≤ m.seq ∧ m.seq ≤ 9999999999 := fun m hm => by
    have h1 := h.qhigh m hm
    have h2 := h.qrise.lt m.seq (List.mem_map.2 ⟨m, hm, rfl⟩)
    have h3 := h.floor
    exact ⟨by have := h3.1; omega, h1⟩
  have hap := h.qrise.apart
  have h0 : (0 : Int) ≤ 0 ∧ (0 : Int) ≤ 9999999999 := by omega
  -- acknowledgements
  have s1 : ∃ i, (ack2 x).foldl add2 sub0 = { sub0 with id := i, acks := diffs x.floor x.acks } := by
    unfold ack2
    split
    · rename_i he; exact ⟨0, by rw [he]; rfl⟩
    · refine ⟨x.id, ?_⟩
      rw [List.foldl_cons, List.foldl_nil, add2]
      dsimp only
      rw [parts2 (by decide) h.id h0]
      dsimp only
      rw [if_pos rfl]
      have ha : At (acksB x) 0 (num x.acks.length ++ (gapsB x.floor x.acks ++ [])) := by rw [List.append_nil]; exact at_start _
      obtain ⟨r1, k1⟩ := n2_at ha
      have hcn : clampN (x.acks.length : Int) = x.acks.length := by have := h.nacks; unfold clampN; omega
      rw [r1, hcn]
      dsimp only
      rw [g2_at x.acks x.floor _ _ [] k1]
      rfl
  -- bodies
  have s2' : ∀ (q pre : List Msg) (y : Sub), (∀ m ∈ q, m ∈ x.queue) → (∀ a ∈ pre, ∀ m ∈ q, a.seq ≠ m.seq) → (q.map Msg.seq).Pairwise (· ≠ ·) → y.queue = pre → ∃ i, (q.map (b2 x.id)).foldl add2 y = { y with id := i, queue := pre ++ q.map hb2 } := by
    intro q
    induction q with
    | nil => intro pre y _ _ _ hy; exact ⟨y.id, by cases y; simp at hy; simp [hy]⟩
    | cons m q ih =>
      intro pre y hq hp hd hy
      rw [List.map_cons, List.pairwise_cons] at hd
      rw [List.map_cons, List.foldl_cons]
      have hm := h.msgs m (hq m (by simp))
      have e : add2 y (b2 x.id m) = { y with id := x.id, queue := pre ++ [hb2 m] } := by
        rw [add2]
        dsimp only
        rw [show (b2 x.id m).key = rkey 2 98 x.id m.seq from rfl, parts2 (by decide) h.id (hseq m (hq m (by simp)))]
        dsimp only
        rw [if_neg (show ¬ (98 : UInt8) = 97 by decide), if_pos rfl, hy, updF_past _ fun a ha => hp a ha m (by simp), updF, if_pos (show (msg0 m.seq).seq = m.seq from rfl), show (b2 x.id m).val = txt m.body from rfl, mB_at hm]
        rfl
      rw [e]
      obtain ⟨i, hi⟩ := ih (pre ++ [hb2 m]) { y with id := x.id, queue := pre ++ [hb2 m] } (fun a ha => hq a (by simp [ha])) (fun a ha b hb => by
        rcases List.mem_append.1 ha with ha | ha
        · exact hp a ha b (by simp [hb])
        · obtain rfl := List.mem_singleton.1 ha
          exact hd.1 _ (List.mem_map.2 ⟨b, hb, rfl⟩)) hd.2 rfl
      exact ⟨i, by rw [hi]; simp⟩
  have s3 : ∀ y : Sub, y.note = [] → ∃ i, (note2 x).foldl add2 y = { y with id := i, note := x.note } := by
    intro y hy
    unfold note2
    split
    · rename_i he; exact ⟨y.id, by cases y; simp at hy; simp [hy, he]⟩
    · refine ⟨x.id, ?_⟩
      rw [List.foldl_cons, List.foldl_nil, add2]
      dsimp only
      rw [parts2 (by decide) h.id h0]
      dsimp only
      rw [if_neg (show ¬ (110 : UInt8) = 97 by decide), if_neg (show ¬ (110 : UInt8) = 98 by decide), if_pos rfl, (t2_at (at_self (txt x.note)) h.note (by decide)).1]
  have s4 := fun (y : Sub) (hy : y.queue = [] ++ x.queue.map hb2) => seg_back (fun m => [q2 x.id m]) hb2 hq2 (fun m => mQ (qB2 m)) x.id x.queue [] y (fun m hm => .inr ⟨q2 x.id m, rfl, fun z => by
      rw [add2]
      dsimp only
      rw [show (q2 x.id m).key = rkey 2 113 x.id m.seq from rfl, parts2 (by decide) h.id (hseq m hm)]
      dsimp only
      rw [if_neg (show ¬ (113 : UInt8) = 97 by decide), if_neg (show ¬ (113 : UInt8) = 98 by decide), if_neg (show ¬ (113 : UInt8) = 110 by decide), if_pos rfl]
      rfl, by rw [mQ_at (h.msgs m hm)]; rfl⟩) (fun m _ => ⟨rfl, rfl⟩) (by simp) hap hy
  have s5 : ∀ y : Sub, [s2 x].foldl add2 y = { y with id := x.id, name := x.name, topic := x.topic, want := x.want, lease := x.lease, most := x.most, floor := x.floor } := by
    intro y
    rw [List.foldl_cons, List.foldl_nil, add2]
    dsimp only
    rw [show (s2 x).key = rkey 2 115 x.id 0 from rfl, parts2 (by decide) h.id h0]
    dsimp only
    rw [if_neg (show ¬ (115 : UInt8) = 97 by decide), if_neg (show ¬ (115 : UInt8) = 98 by decide), if_neg (show ¬ (115 : UInt8) = 110 by decide), if_neg (show ¬ (115 : UInt8) = 113 by decide), if_pos rfl, show (s2 x).val = sB2 x from rfl, sS_at h]
  have s6 := fun (y : Sub) (hy : y.queue = [] ++ x.queue.map hq2) => seg_back (x2 x.id) hq2 id (fun m => mX (xB m)) x.id x.queue [] y (fun m hm => by
    unfold x2
    split
    · refine .inr ⟨_, rfl, fun z => ?_, ?_⟩
      · rw [add2]
        dsimp only
        rw [parts2 (by decide) h.id (hseq m hm)]
        dsimp only
        rw [if_neg (show ¬ (120 : UInt8) = 97 by decide), if_neg (show ¬ (120 : UInt8) = 98 by decide), if_neg (show ¬ (120 : UInt8) = 110 by decide), if_neg (show ¬ (120 : UInt8) = 113 by decide), if_neg (show ¬ (120 : UInt8) = 115 by decide), if_pos rfl]
      · rw [mX_at (h.msgs m hm)]; rfl
    · rename_i hn
      refine .inl ⟨rfl, ?_⟩
      have hp : m.prio = 0 := by
        by_cases hp : m.prio = 0
        · exact hp
        · exact absurd (.inl hp) hn
      have hd : m.dead = false := by
        cases hd : m.dead
        · rfl
        · exact absurd (.inr hd) hn
      have hw := (h.msgs m hm).calm hd
      cases m; simp at hp hw; simp [hq2, hp, hw]) (fun m _ => ⟨rfl, rfl⟩) (by simp) hap hy
  unfold rows2 enc2
  rw [List.foldl_append, List.foldl_append, List.foldl_append, List.foldl_append, List.foldl_append]
  obtain ⟨i1, e1⟩ := s1
  obtain ⟨i2, e2⟩ := s2' x.queue [] _ (fun _ h => h) (by simp) hap (show ((ack2 x).foldl add2 sub0).queue = [] by rw [e1]; rfl)
  obtain ⟨i3, e3⟩ := s3 _ (show ((x.queue.map (b2 x.id)).foldl add2 ((ack2 x).foldl add2 sub0)).note = [] by rw [e2, e1]; rfl)
  rw [flat1 (q2 x.id)]
  obtain ⟨i4, h4, e4⟩ := s4 _ (show ((note2 x).foldl add2 ((x.queue.map (b2 x.id)).foldl add2 ((ack2 x).foldl add2 sub0))).queue = [] ++ x.queue.map hb2 by rw [e3, e2])
  obtain ⟨i5, h5, e5⟩ := s6 _ (show ([s2 x].foldl add2 ((x.queue.flatMap fun m => [q2 x.id m]).foldl add2 ((note2 x).foldl add2 ((x.queue.map (b2 x.id)).foldl add2 ((ack2 x).foldl add2 sub0))))).queue = [] ++ x.queue.map hq2 by rw [s5, e4])
  have h6 : i5 = x.id := by
    rcases h5 with h | h
    · rw [h, s5]
    · exact h
  rw [e5, h6, s5, e4, e3, e2, e1]
  simp [sub0]
end Go.Proofs.YtkbmkhhcppfcnaaDoor
end
section
set_option linter.unusedVariables false
set_option linter.unusedSimpArgs false
namespace Go.Proofs.YtkbmkhhcppfcnaaDoor
open Go.Al
theorem Up.app {l m : List Row} (h1 : Up l) (h2 : Up m) (h : ∀ a ∈ l, ∀ b ∈ m, ltS a.key b.key = true) : Up (l ++ m) := List.pairwise_append.2 ⟨h1, h2, h⟩
def InT (t : Nat) (id : Int) (l : List Row) : Prop := ∀ r ∈ l, ∃ u seq, u.toNat = t ∧ r.key = rkey 2 u id seq
theorem ack2_in (x : Sub) : InT 97 x.id (ack2 x) := fun r hr => by
  unfold ack2 at hr
  split at hr
  · simp at hr
  · obtain rfl := List.mem_singleton.1 hr; exact ⟨97, 0, rfl, rfl⟩
theorem b2_in (x : Sub) : InT 98 x.id (x.queue.map (b2 x.id)) := fun r hr => by
  obtain ⟨m, hm, rfl⟩ := List.mem_map.1 hr
  exact ⟨98, m.seq, rfl, rfl⟩
theorem note2_in (x : Sub) : InT 110 x.id (note2 x) := fun r hr => by
  unfold note2 at hr
  split at hr
  · simp at hr
  · obtain rfl := List.mem_singleton.1 hr; exact ⟨110, 0, rfl, rfl⟩
theorem q2_in (x : Sub) : InT 113 x.id (x.queue.map (q2 x.id)) := fun r hr => by
  obtain ⟨m, hm, rfl⟩ := List.mem_map.1 hr
  exact ⟨113, m.seq, rfl, rfl⟩
theorem s2_in (x : Sub) : InT 115 x.id [s2 x] := fun r hr => by
  obtain rfl := List.mem_singleton.1 hr; exact ⟨115, 0, rfl, rfl⟩
theorem x2_mem {id : Int} {q : List Msg} {r : Row} (h : r ∈ q.flatMap (x2 id)) : ∃ m ∈ q, r = ⟨rkey 2 120 id m.seq, xB m⟩ := by
  obtain ⟨m, hm, h⟩ := List.mem_flatMap.1 h
  unfold x2 at h
  split at h
  · obtain rfl := List.mem_singleton.1 h; exact ⟨m, hm, rfl⟩
  · simp at h
theorem x2_in (x : Sub) : InT 120 x.id (x.queue.flatMap (x2 x.id)) := fun r hr => by
  obtain ⟨m, hm, rfl⟩ := x2_mem hr
  exact ⟨120, m.seq, rfl, rfl⟩
theorem in_lt {s t : Nat} {id : Int} {l m : List Row} (h1 : InT s id l) (h2 : InT t id m) (h : s < t) : ∀ a ∈ l, ∀ b ∈ m, ltS a.key b.key = true := fun a ha b hb => by
  obtain ⟨u, i, hu, e⟩ := h1 a ha
  obtain ⟨w, j, hw, f⟩ := h2 b hb
  rw [e, f]
  exact rkey_table 2 (by omega) id i j
theorem all_app {l m n : List Row} (h1 : ∀ a ∈ l, ∀ b ∈ n, ltS a.key b.key = true) (h2 : ∀ a ∈ m, ∀ b ∈ n, ltS a.key b.key = true) : ∀ a ∈ l ++ m, ∀ b ∈ n, ltS a.key b.key = true := fun a ha b hb => by
  rcases List.mem_append.1 ha with ha | ha
  · exact h1 a ha b hb
  · exact h2 a ha b hb
theorem up1 (l : List Row) (h : l.length ≤ 1) : Up l := by
  match l, h with
  | [], _ => exact .nil
  | [a], _ => exact .cons (by simp) .nil
theorem x2_up (id : Int) : ∀ (q : List Msg) (lo : Int), 0 ≤ lo → Rise lo (q.map Msg.seq) → (∀ m ∈ q, m.seq ≤ 9999999999) → Up (q.flatMap (x2 id))
  | [], _, _, _, _ => .nil
  | m :: q, lo, h0, h, hh => by
    have h1 : lo < m.seq := h.1
    rw [List.flatMap_cons]
    refine Up.app (up1 _ (by unfold x2; split <;> simp)) (x2_up id q m.seq (by omega) h.2 fun x hx => hh x (by simp [hx])) fun a ha b hb => ?_
    obtain ⟨y, hy, rfl⟩ := x2_mem hb
    have ha' : a = ⟨rkey 2 120 id m.seq, xB m⟩ := by
      unfold x2 at ha
      split at ha
      · exact List.mem_singleton.1 ha
      · simp at ha
    subst ha'
    have : m.seq < y.seq := h.2.lt _ (List.mem_map.2 ⟨y, hy, rfl⟩)
    exact rkey_seq 2 120 id (by omega) this (hh y (by simp [hy]))
theorem enc2_up {x : Sub} (h : Good2 x) : Up (enc2 x) := by
  have hf := h.floor.1
  have a1 : Up (ack2 x) := up1 _ (by unfold ack2; split <;> simp)
  have a2 : Up (x.queue.map (b2 x.id)) := rise_rows 2 98 x.id (fun m => txt m.body) x.queue x.floor hf h.qrise h.qhigh
  have a3 : Up (note2 x) := up1 _ (by unfold note2; split <;> simp)
  have a4 : Up (x.queue.map (q2 x.id)) := rise_rows 2 113 x.id qB2 x.queue x.floor hf h.qrise h.qhigh
  have a5 : Up [s2 x] := up1 _ (by simp)
  have a6 : Up (x.queue.flatMap (x2 x.id)) := x2_up x.id x.queue x.floor hf h.qrise h.qhigh
  have t1 := ack2_in x
  have t2 := b2_in x
  have t3 := note2_in x
  have t4 := q2_in x
  have t5 := s2_in x
  have t6 := x2_in x
  refine (((((a1.app a2 ?_).app a3 ?_).app a4 ?_).app a5 ?_).app a6 ?_)
  · exact in_lt t1 t2 (by decide)
  · exact all_app (in_lt t1 t3 (by decide)) (in_lt t2 t3 (by decide))
  · exact all_app (all_app (in_lt t1 t4 (by decide)) (in_lt t2 t4 (by decide))) (in_lt t3 t4 (by decide))
  · exact all_app (all_app (all_app (in_lt t1 t5 (by decide)) (in_lt t2 t5 (by decide))) (in_lt t3 t5 (by decide))) (in_lt t4 t5 (by decide))
  · exact all_app (all_app (all_app (all_app (in_lt t1 t6 (by decide)) (in_lt t2 t6 (by decide))) (in_lt t3 t6 (by decide))) (in_lt t4 t6 (by decide))) (in_lt t5 t6 (by decide))
theorem dec2_back {x : Sub} (h : Good2 x) : dec2 (enc2 x) = (x, 0) := by
  have hr := rows2_back h
  have hs : fin2 (enc2 x) = x := by
    rw [fin2, hr]
    dsimp only
    rw [runUp_diffs x.acks x.floor 9999999999 h.floor.1 h.rise h.high (by omega)]
  rw [dec2, hs, if_pos ⟨upTo_up (enc2_up h) _ (Nat.le_refl _), rfl⟩]
theorem enc2_long (x : Sub) : 1 + x.queue.length ≤ (enc2 x).length := by
  rw [enc2]; simp; omega
theorem x2_few (id : Int) : ∀ q : List Msg, (q.flatMap (x2 id)).length ≤ q.length
  | [] => by simp
  | m :: q => by
    have := x2_few id q
    have h : (x2 id m).length ≤ 1 := by unfold x2; split <;> simp
    rw [List.flatMap_cons]; simp only [List.length_append, List.length_cons]; omega
theorem enc2_few (x : Sub) : (enc2 x).length ≤ 3 + 3 * x.queue.length := by
  have h1 := x2_few x.id x.queue
  have h2 : (ack2 x).length ≤ 1 := by unfold ack2; split <;> simp
  have h3 : (note2 x).length ≤ 1 := by unfold note2; split <;> simp
  rw [enc2]; simp only [List.length_append, List.length_map, List.length_singleton]; omega
theorem enc2_row {id clock next : Nat} {x : Sub} (h : Grown id clock next x) (hn : next ≤ 16384) {r : Row} (hr : r ∈ enc2 x) : (∃ t seq, (97 ≤ t.toNat ∧ t.toNat ≤ 122) ∧ r.key = rkey 2 t x.id seq) ∧ r.val.length ≤ 150 := by
  have tl := txt_len
  have nl := num_len
  rw [enc2] at hr
  rcases List.mem_append.1 hr with hr | hr
  · rcases List.mem_append.1 hr with hr | hr
    · rcases List.mem_append.1 hr with hr | hr
      · rcases List.mem_append.1 hr with hr | hr
        · rcases List.mem_append.1 hr with hr | hr
          · unfold ack2 at hr
            split at hr
            · simp at hr
            · obtain rfl := List.mem_singleton.1 hr
              exact ⟨⟨97, 0, by decide, rfl⟩, acksB_short h hn⟩
          · obtain ⟨m, hm, rfl⟩ := List.mem_map.1 hr
            refine ⟨⟨98, m.seq, by decide, rfl⟩, ?_⟩
            have := tl m.body
            have := (h.msgs m hm).body
            show (txt m.body).length ≤ 150
            omega
        · unfold note2 at hr
          split at hr
          · simp at hr
          · obtain rfl := List.mem_singleton.1 hr
            refine ⟨⟨110, 0, by decide, rfl⟩, ?_⟩
            have := tl x.note
            have := h.note
            show (txt x.note).length ≤ 150
            omega
      · obtain ⟨m, hm, rfl⟩ := List.mem_map.1 hr
        refine ⟨⟨113, m.seq, by decide, rfl⟩, ?_⟩
        have h1 := tl m.attr
        have h2 := (h.msgs m hm).alen
        have h3 := nl m.tries
        have h4 := nl m.until_
        have h5 := nl (deadN m)
        show (qB2 m).length ≤ 150
        rw [qB2]; simp only [List.length_append]; omega
    · obtain rfl := List.mem_singleton.1 hr
      refine ⟨⟨115, 0, by decide, rfl⟩, ?_⟩
      have h1 := tl x.name
      have h2 := tl x.topic
      have h3 := tl x.want
      have h5 := nl x.lease
      have h6 := nl x.most
      have h7 := nl x.floor
      have h8 := h.nlen
      have h9 := topic_short h.topic
      have ha := want_short h.want
      show (sB2 x).length ≤ 150
      rw [sB2]; simp only [List.length_append]; omega
  · obtain ⟨m, hm, rfl⟩ := x2_mem hr
    refine ⟨⟨120, m.seq, by decide, rfl⟩, ?_⟩
    have h1 := nl m.prio
    have h2 := nl (deathN m)
    show (xB m).length ≤ 150
    rw [xB]; simp only [List.length_append]; omega
end Go.Proofs.YtkbmkhhcppfcnaaDoor
end
