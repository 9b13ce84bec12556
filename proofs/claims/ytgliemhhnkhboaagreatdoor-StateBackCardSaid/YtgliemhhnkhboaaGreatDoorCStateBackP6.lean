/- The law StateBack returns true for every input, and its arguments read as before: the tied card. No conditions. This is part 6 of 7 of its proof; the parts are read in order. No conditions. -/
import Derived.Test.YtgliemhhnkhboaaGreatDoorCStateBackP5
section
set_option linter.unusedVariables false
set_option linter.unusedSimpArgs false
set_option maxRecDepth 100000
set_option maxHeartbeats 2000000
namespace Go.Proofs.YtgliemhhnkhboaaGreatDoor
open Go.Al Go.RowKit
def subC (x : Sub) (ta tq : Tok) : List AV := [.int .i64 x.id, .str x.name, .str x.topic, .str x.want, .int .i64 x.lease, .int .i64 x.most, .int .i64 x.floor, .slc 1 (x.acks.map (.int .i64)) ta, .slc 8 (x.queue.map eMsg) tq, .str x.note]
def msgC (m : Msg) : List AV := [.int .i64 m.seq, .str m.body, .str m.attr, .int .i64 m.tries, .int .i64 m.until_, .bool m.dead, .str m.why, .int .i64 m.prio]
theorem weak_sub (x : Sub) (ta tq : Tok) : Weak (eSub x) (.agg (subC x ta tq)) := .agg (.cons (.refl _) (.cons (.refl _) (.cons (.refl _) (.cons (.refl _) (.cons (.refl _) (.cons (.refl _) (.cons (.refl _) (.cons (.tok _ _ _) (.cons (.tok _ _ _) (.cons (.refl _) .nil)))))))))) (by simp [AV.one, eInts, eMsgs])
def z10 : List AV := [.int .i64 0, .str [], .str [], .str [], .int .i64 0, .int .i64 0, .int .i64 0, .nils, .nils, .str []]
structure InSub (σ s : St) (b8 bx : Nat) (x : Sub) (ta tq : Tok) : Prop where
  r : s.box b8 = some z10
  b : s.box bx = some (subC x ta tq)
  ma : Moves σ .full s ta
  mq : Moves σ .full s tq
  d : ∀ p, tq = .own p → ta ≠ .own p
theorem InSub.set {σ s : St} {b8 bx : Nat} {x x' : Sub} {ta tq : Tok} (h : InSub σ s b8 bx x ta tq) (hne : b8 ≠ bx) (hbx : σ.box bx = none) : InSub σ (s.setBox bx (subC x' ta tq)) b8 bx x' ta tq :=
  ⟨hb_ne hne h.r, setBox_same, h.ma.new hbx, h.mq.new hbx, h.d⟩
theorem InSub.other {σ s : St} {b8 bx b : Nat} {x : Sub} {ta tq : Tok} {cs : List AV} (h : InSub σ s b8 bx x ta tq) (h8 : b8 ≠ b) (hx : bx ≠ b) (hb : σ.box b = none) : InSub σ (s.setBox b cs) b8 bx x ta tq :=
  ⟨hb_ne h8 h.r, hb_ne hx h.b, h.ma.new hb, h.mq.new hb, h.d⟩
theorem InSub.acks {σ s σ1 : St} {b8 bx : Nat} {x x' : Sub} {ta tq tk : Tok} (h : InSub σ s b8 bx x ta tq) (hne : b8 ≠ bx) (hbx : σ.box bx = none) (hm : Moves s ta σ1 tk) : InSub σ (σ1.setBox bx (subC x' tk tq)) b8 bx x' tk tq := by
  obtain ⟨h1, h2, h3⟩ := Moves.two h.ma h.mq h.d hm
  exact ⟨hb_ne hne (hm.box _ _ h.r), setBox_same, h1.new hbx, h2.new hbx, h3⟩
theorem InSub.queue {σ s σ1 : St} {b8 bx : Nat} {x x' : Sub} {ta tq tk : Tok} (h : InSub σ s b8 bx x ta tq) (hne : b8 ≠ bx) (hbx : σ.box bx = none) (hm : Moves s tq σ1 tk) : InSub σ (σ1.setBox bx (subC x' ta tk)) b8 bx x' ta tk := by
  obtain ⟨h1, h2, h3⟩ := Moves.two h.mq h.ma (fun p e e' => h.d p e' e) hm
  exact ⟨hb_ne hne (hm.box _ _ h.r), setBox_same, h2.new hbx, h1.new hbx, fun p e e' => h3 p e' e⟩
theorem sub_any (w0 : Base) (c : List UInt8) (t : Tok) (id clock next : Nat) (hc : c.length ≤ 9223372036854775807) (hid : id ≤ 1000) (hclock : clock ≤ 100000000) (hnext : 1 ≤ next ∧ next ≤ 100000) (σ : St) :
    CallW Tryz.prog w0 12 [.slc 1 (aBytes c) t, .int .i64 id, .int .i64 clock, .int .i64 next] σ (fun r s => ∃ x, r = eSub x ∧ Grown id clock next x ∧ s = σ) := by
  refine CallW.start Tryz.func12 rfl Tryz.ntmps12 (by simp) fun Q hQ => ?_
  have g0 := gL_lt c 0
  have g1 := gL_lt c 1
  have g2 := gL_lt c 2
  have g3 := gL_lt c 3
  have g4 := gL_lt c 4
  have hm0 : gL c 0 % 20 ≤ 19 := by omega
  have hlt0 := textL_len (gL c 0) 19
  refine W.seq ?_; refine W.regionL (by decide +kernel) rfl ?_; apply r_alloc; exact rfl; exact rfl; decide; exact rfl; (conv => (lhs; whnf)); intro b1 hb1; refine runs_done ?_; show W _ _ _ _ _ _ _
  obtain ⟨tp, htp, htl⟩ : ∃ v : List UInt8, [AV.str [35], .str [97], .str [97, 47, 43], .str [98, 47, 35]][((gL c 1 : Int) % 4).toNat]? = some (.str v) ∧ TopicOk v := by
    have h : gL c 1 % 4 < 4 := Nat.mod_lt _ (by decide)
    rw [show ((gL c 1 : Int) % 4).toNat = gL c 1 % 4 by omega]
    generalize gL c 1 % 4 = q at h
    match q, h with
    | 0, _ => exact ⟨_, rfl, .inl rfl⟩
    | 1, _ => exact ⟨_, rfl, .inr (.inl rfl)⟩
    | 2, _ => exact ⟨_, rfl, .inr (.inr (.inl rfl))⟩
    | 3, _ => exact ⟨_, rfl, .inr (.inr (.inr rfl))⟩
  obtain ⟨wn, hwn, hwl⟩ : ∃ v : List UInt8, [AV.str [], .str [97, 61, 49], .str [97, 61, 49, 44, 98, 61, 50]][((gL c 1 : Int) / 4 % 3).toNat]? = some (.str v) ∧ WantOk v := by
    have h : gL c 1 / 4 % 3 < 3 := Nat.mod_lt _ (by decide)
    rw [show ((gL c 1 : Int) / 4 % 3).toNat = gL c 1 / 4 % 3 by omega]
    generalize gL c 1 / 4 % 3 = q at h
    match q, h with
    | 0, _ => exact ⟨_, rfl, .inl rfl⟩
    | 1, _ => exact ⟨_, rfl, .inr (.inl rfl)⟩
    | 2, _ => exact ⟨_, rfl, .inr (.inr rfl)⟩
  refine W.seq ?_; refine W.regionDK 0 [] Ty.mixed (by decide +kernel) (by decide +kernel) rfl ?_; apply r_op; exact rfl; exact rfl; apply a_move; (conv => (lhs; whnf)); apply r_op; exact rfl; exact rfl; apply a_move; (conv => (lhs; whnf)); apply r_callP; exact rfl; exact rfl; exact rfl; exact rfl; exact rfl; infer_instance; exact g_any w0 c t 0; apply r_callP; exact rfl; exact rfl; exact rfl
  exact rfl; exact rfl; infer_instance; exact lawtext_any w0 (gL c 0) 19 (by omega) (by omega); apply r_op; exact rfl; exact rfl; apply g_binOp; exact a_addS rfl rfl (by simp only [length_aBytes, List.length_append, List.length_cons, List.length_nil, List.length_map, List.length_range]; omega); apply r_op; exact rfl; exact rfl; apply g_buildSlice; apply a_buildN
  apply EvP.cons (by (conv => (lhs; whnf))); apply EvP.cons (by (conv => (lhs; whnf))); apply EvP.cons (by (conv => (lhs; whnf))); apply EvP.cons (by (conv => (lhs; whnf))); exact EvP.nil; (conv => (lhs; whnf)); exact rfl; exact rfl; decide; apply r_op; exact rfl; exact rfl; apply a_move; (conv => (lhs; whnf)); apply r_callP; exact rfl; exact rfl; exact rfl; exact rfl; exact rfl; infer_instance
  exact g_any w0 c t 1; apply r_op; exact rfl; exact rfl; apply g_binOp; exact a_rem rfl rfl (by omega); apply r_op; exact rfl; exact rfl; apply g_indexAddr; exact a_indexAddr rfl rfl (by decide) (by omega) (by assumption); apply r_op; exact rfl; exact rfl; apply g_load; exact a_load1 rfl rfl; apply r_op; exact rfl; exact rfl; apply g_buildSlice; apply a_buildN
  apply EvP.cons (by (conv => (lhs; whnf))); apply EvP.cons (by (conv => (lhs; whnf))); apply EvP.cons (by (conv => (lhs; whnf))); exact EvP.nil; (conv => (lhs; whnf)); exact rfl; exact rfl; decide; apply r_op; exact rfl; exact rfl; apply a_move; (conv => (lhs; whnf)); apply r_callP; exact rfl; exact rfl; exact rfl; exact rfl; exact rfl; infer_instance; exact g_any w0 c t 1; apply r_op; exact rfl
  exact rfl; apply g_binOp; exact a_quo64 rfl rfl (by omega); apply r_op; exact rfl; exact rfl; apply g_binOp; exact a_rem rfl rfl (by omega); apply r_op; exact rfl; exact rfl; apply g_indexAddr; exact a_indexAddr rfl rfl (by decide) (by omega) (by assumption); apply r_op; exact rfl; exact rfl; apply g_load; exact a_load1 rfl rfl; apply r_op; exact rfl; exact rfl; apply a_move
  (conv => (lhs; whnf)); apply r_callP; exact rfl; exact rfl; exact rfl; exact rfl; exact rfl; infer_instance; exact g_any w0 c t 2; apply r_op; exact rfl; exact rfl; apply g_binOp; exact a_mul64 rfl rfl (by omega); apply r_op; exact rfl; exact rfl; apply g_binOp; exact a_add64 rfl rfl (by omega); apply r_op; exact rfl; exact rfl; apply a_move; (conv => (lhs; whnf)); apply r_callP; exact rfl
  exact rfl; exact rfl; exact rfl; exact rfl; infer_instance; exact g_any w0 c t 3; apply r_op; exact rfl; exact rfl; apply g_binOp; exact a_rem rfl rfl (by omega); apply r_op; exact rfl; exact rfl; apply g_binOp; exact a_add64 rfl rfl (by omega); apply r_op; exact rfl; exact rfl; apply a_move; (conv => (lhs; whnf)); apply r_callP; exact rfl; exact rfl; exact rfl; exact rfl; exact rfl
  infer_instance; exact g_any w0 c t 4; apply r_op; exact rfl; exact rfl; apply a_move; (conv => (lhs; whnf)); apply r_op; exact rfl; exact rfl; apply g_binOp; exact a_rem rfl rfl (by omega); apply r_op; exact rfl; exact rfl; apply g_build; apply a_build; apply EvP.cons (by (conv => (lhs; whnf))); apply EvP.cons (by (conv => (lhs; whnf))); apply EvP.cons (by (conv => (lhs; whnf)))
  apply EvP.cons (by (conv => (lhs; whnf))); apply EvP.cons (by (conv => (lhs; whnf))); apply EvP.cons (by (conv => (lhs; whnf))); apply EvP.cons (by (conv => (lhs; whnf))); exact EvP.nil
  simp only [aFill, List.getElem?_cons_zero, List.getElem?_cons_succ, AV.cells, List.length_cons, List.length_nil, AV.flat, AV.one, setL, List.set_cons_zero, List.set_cons_succ, Nat.reduceAdd, Nat.reduceLeDiff, Nat.reduceMul, and_self, if_true, ↓reduceIte, Nat.zero_add, Nat.le_refl, List.range, List.range.loop, List.map_cons, List.map_nil, Nat.zero_le]
  rfl; apply r_alloc; exact rfl; exact rfl; decide; exact rfl; (conv => (lhs; whnf)); intro b1 hb1; apply r_store; exact rfl; exact rfl; exact rfl; decide; infer_instance; exact rfl; exact setBox_same; (conv => (lhs; whnf)); exact rfl; (conv => (lhs; whnf)); exact rfl; exact of_decide_eq_true rfl; exact setL_whole rfl; refine runs_done ?_; show W _ _ _ _ _ _ _
  rename_i b8 hb8
  have hne : b8 ≠ b1 := ne_none' hb1
  have hbx : σ.box b1 = none := none_in hb1
  generalize b1 = bx at hne hbx hb1 ⊢
  generalize hx1 : (⟨id, [110] ++ textL (gL c 0) 19, tp, wn, 1 + (gL c 2 : Int) * 3, 1 + (gL c 3 : Int) % 9, (gL c 4 : Int) % (next : Int), [], [], []⟩ : Sub) = x1
  have hs1 : InSub σ (((σ.setBox b8 z10).setBox bx z10).setBox bx (subC x1 .full .full)) b8 bx x1 .full .full := by
    rw [setBox_setBox]
    exact ⟨hb_ne hne setBox_same, setBox_same, ((Moves.full σ).new hb8).new hbx, ((Moves.full σ).new hb8).new hbx, fun p e => by cases e⟩
  have hgr : Grown id clock next x1 := by
    subst hx1
    refine ⟨⟨gL c 0, g0, rfl⟩, htl, hwl, by simp, rfl, ?_, ?_, ?_, by simp, by simp, trivial, by simp, trivial, by simp, by simp, by simp⟩
    · show 1 ≤ 1 + (gL c 3 : Int) % 9 ∧ 1 + (gL c 3 : Int) % 9 ≤ 9; omega
    · show 1 ≤ 1 + (gL c 2 : Int) * 3 ∧ 1 + (gL c 2 : Int) * 3 ≤ 1000; omega
    · exact ⟨Int.emod_nonneg _ (by omega), Int.emod_lt_of_pos _ (by omega)⟩
  have hup : UpTo x1 x1.floor := by subst hx1; exact ⟨Int.le_refl _, by simp, by simp⟩
  refine W.weakBox (b := bx) (ds := subC x1 .full .full) setBox_same ?_ ?_
  · subst hx1
    exact .cons (.refl _) (.cons (.refl _) (.cons (.refl _) (.cons (.refl _) (.cons (.refl _) (.cons (.refl _) (.cons (.refl _) (.cons (.nils 1 .full (.inr rfl)) (.cons (.nils 8 .full (.inr rfl)) (.cons (.refl _) .nil)))))))))
  rw [setBox_setBox, setBox_setBox]
  rw [setBox_setBox] at hs1
  change W Tryz.prog w0 _ _ _ _ ((σ.setBox b8 z10).setBox bx (subC x1 .full .full))
  generalize (σ.setBox b8 z10).setBox bx (subC x1 .full .full) = s1 at hs1 ⊢
  have hlt5 := textL_len (gL c 5) 30
  have g5 := gL_lt c 5
  refine W.seq ?_; refine W.meet (fun E s => ∃ x, Grown id clock next x ∧ UpTo x x.floor ∧ InSub σ s b8 bx x .full .full ∧ Has [(0, .slc 1 (aBytes c) t), (2, .int .i64 clock), (3, .int .i64 next), (8, .ptr b8 0), (9, .ptr bx 0)] E) ?_ ?_
  · have hb1 := hs1.b
    refine W.seq ?_; refine W.regionL (by decide +kernel) rfl ?_; apply r_op; exact rfl; exact rfl; apply a_move; (conv => (lhs; whnf)); apply r_callP; exact rfl; exact rfl; exact rfl; exact rfl; exact rfl; infer_instance; exact g_any w0 c t 5; apply r_op; exact rfl; exact rfl; apply g_binOp; exact a_binI rfl rfl rfl; (with_reducible refine runs_done ?_)
    refine W.cond rfl (fun hc => ?_) (fun hc => ?_)
    · refine W.regionL (by decide +kernel) rfl ?_
      apply r_op; exact rfl; exact rfl; apply a_move; (conv => (lhs; whnf)); apply r_callP; exact rfl; exact rfl; exact rfl; exact rfl; exact rfl; infer_instance; exact g_any w0 c t 5; apply r_callP; exact rfl; exact rfl; exact rfl; exact rfl; exact rfl; infer_instance; exact lawtext_any w0 (gL c 5) 30 (by omega) (by omega); apply r_op; exact rfl; exact rfl; apply g_fieldAddr
      exact a_fieldAddrP rfl (by decide); apply r_store; exact rfl; exact rfl; exact rfl; decide; infer_instance; exact rfl; assumption; (conv => (lhs; whnf)); exact rfl; (conv => (lhs; whnf)); exact rfl; exact of_decide_eq_true rfl; exact rfl; (with_reducible refine runs_done ?_)
      exact ⟨{ x1 with note := textL (gL c 5) 30 }, hgr.withNote hlt5, ⟨hup.floor, hup.acks, hup.queue⟩, hs1.set (x' := { x1 with note := textL (gL c 5) 30 }) hne hbx, by exact Has.by (by repeat (first | exact trivial | refine ⟨by first | trivial | exact Weak.refl _ | exact Weak.tok _ _ _ | exact Weak.of_eq (congrArg (AV.int _) (by omega)) | exact Weak.nils _ _ (.inr rfl), ?_⟩))⟩
    · refine W.skip ?_
      exact ⟨x1, hgr, hup, hs1, by exact Has.by (by repeat (first | exact trivial | refine ⟨by first | trivial | exact Weak.refl _ | exact Weak.tok _ _ _ | exact Weak.of_eq (congrArg (AV.int _) (by omega)) | exact Weak.nils _ _ (.inr rfl), ?_⟩))⟩
  · rintro E s ⟨x, hgr, hup, hs, hE⟩
    refine W.has hE ?_; clear hE hs1
    have hb := hs.b
    refine W.seq ?_; refine W.regionL (by decide +kernel) rfl ?_; apply r_op; exact rfl; exact rfl; apply g_fieldAddr; exact a_fieldAddrP rfl (by decide); apply r_load; exact rfl; exact rfl; exact rfl; decide; exact rfl; assumption; exact aLoad1 rfl; apply r_op; exact rfl; exact rfl; apply a_assign; (conv => (lhs; whnf)); refine runs_done ?_; show W _ _ _ _ _ _ _; refine W.seq ?_
    refine W.meet (fun E s => ∃ x ta tq, Grown id clock next x ∧ InSub σ s b8 bx x ta tq ∧ Has [(8, .ptr b8 0), (9, .ptr bx 0)] E) ?_ ?_
    · refine W.seq ?_
      refine W.regionL (by decide +kernel) rfl ?_; apply r_op; exact rfl; exact rfl; apply a_assign; (conv => (lhs; whnf)); (with_reducible refine runs_done ?_); refine W.block ?_
      refine W.loop (fun k E s => ∃ (i : Nat) (seq : Int) (x : Sub) (ta tq : Tok), k = 100 - i ∧ 6 ≤ i ∧ i ≤ 69 ∧ 0 ≤ seq ∧ seq < next ∧ Grown id clock next x ∧ UpTo x seq ∧ InSub σ s b8 bx x ta tq ∧ Has [(0, .slc 1 (aBytes c) t), (2, .int .i64 clock), (3, .int .i64 next), (8, .ptr b8 0), (9, .ptr bx 0), (10, .int .i64 seq), (11, .int .i64 i)] E) 94 ⟨6, x.floor, x, .full, .full, rfl, by omega, by omega, hgr.floor.1, hgr.floor.2, hgr, hup, hs, by exact Has.by (by repeat (first | exact trivial | refine ⟨by first | trivial | exact Weak.refl _ | exact Weak.tok _ _ _ | exact Weak.of_eq (congrArg (AV.int _) (by omega)) | exact Weak.nils _ _ (.inr rfl), ?_⟩))⟩ ?_
      clear hup hs hb hgr x; rintro k E s ⟨i, seq, x, ta, tq, rfl, hi6, hi69, hs0, hsn, hgr, hup, hs, hE⟩; refine W.has hE ?_; clear hE
      have hb := hs.b
      have hla := length_aBytes c
      by_cases hlen : ¬ (i + 3 < c.length)
      · have d1 : decide ((i : Int) + 3 < ((aBytes c).length : Int)) = false := decide_eq_false (by rw [hla]; omega)
        refine W.seq ?_; refine W.seq ?_; refine W.regionL (by decide +kernel) rfl ?_; apply r_op; exact rfl; exact rfl; apply a_move; (conv => (lhs; whnf)); apply r_op; exact rfl; exact rfl; apply g_binOp; exact a_add64 rfl rfl (by omega); apply r_op; exact rfl; exact rfl; apply a_move; (conv => (lhs; whnf)); apply r_op; exact rfl; exact rfl; apply g_call; exact a_len_slc rfl; apply r_op
        exact rfl; exact rfl; apply g_binOp; exact a_binI rfl rfl rfl; apply r_op; exact rfl; exact rfl; apply a_move; (conv => (lhs; whnf)); apply q_skip; exact rfl; exact want_f rfl rfl rfl (by assumption); apply q_skip; exact rfl; exact want_f rfl rfl rfl (by assumption); apply r_op; exact rfl; exact rfl; apply g_pick; apply a_pickF rfl (by assumption); (conv => (lhs; whnf))
        (with_reducible refine runs_done ?_); refine W.condF rfl (by exact rfl) ?_; refine W.exit ?_
        exact ⟨x, ta, tq, hgr, hs, by exact Has.by (by repeat (first | exact trivial | refine ⟨by first | trivial | exact Weak.refl _ | exact Weak.tok _ _ _ | exact Weak.of_eq (congrArg (AV.int _) (by omega)) | exact Weak.nils _ _ (.inr rfl), ?_⟩))⟩
      have hlen := Decidable.of_not_not hlen
      have d1 : decide ((i : Int) + 3 < ((aBytes c).length : Int)) = true := decide_eq_true (by rw [hla]; omega)
      by_cases h66 : ¬ (i < 66)
      · have d2 : decide ((i : Int) < 66) = false := decide_eq_false (by omega)
        refine W.seq ?_; refine W.seq ?_; refine W.regionL (by decide +kernel) rfl ?_; apply r_op; exact rfl; exact rfl; apply a_move; (conv => (lhs; whnf)); apply r_op; exact rfl; exact rfl; apply g_binOp; exact a_add64 rfl rfl (by omega); apply r_op; exact rfl; exact rfl; apply a_move; (conv => (lhs; whnf)); apply r_op; exact rfl; exact rfl; apply g_call; exact a_len_slc rfl; apply r_op
        exact rfl; exact rfl; apply g_binOp; exact a_binI rfl rfl rfl; apply r_op; exact rfl; exact rfl; apply a_move; (conv => (lhs; whnf)); apply r_op; exact rfl; exact want_t rfl rfl rfl (by assumption); apply a_move; (conv => (lhs; whnf)); apply r_op; exact rfl; exact want_t rfl rfl rfl (by assumption); apply g_binOp; exact a_binI rfl rfl rfl; apply r_op; exact rfl; exact rfl; apply g_pick
        apply a_pickT rfl (by assumption); (conv => (lhs; whnf)); (with_reducible refine runs_done ?_); refine W.condF rfl (by assumption) ?_; refine W.exit ?_
        exact ⟨x, ta, tq, hgr, hs, by exact Has.by (by repeat (first | exact trivial | refine ⟨by first | trivial | exact Weak.refl _ | exact Weak.tok _ _ _ | exact Weak.of_eq (congrArg (AV.int _) (by omega)) | exact Weak.nils _ _ (.inr rfl), ?_⟩))⟩
      have h66 := Decidable.of_not_not h66
      have d2 : decide ((i : Int) < 66) = true := decide_eq_true (by omega)
      obtain ⟨q0, gi0⟩ : ∃ q : UInt8, c[((i : Int)).toNat]? = some q := ⟨c[i]'(by omega), by simp⟩
      obtain ⟨q1, gi1⟩ : ∃ q : UInt8, c[((i : Int) + 1).toNat]? = some q := ⟨c[i + 1]'(by omega), by rw [show ((i : Int) + 1).toNat = i + 1 by omega]; simp⟩
      obtain ⟨q2, gi2⟩ : ∃ q : UInt8, c[((i : Int) + 2).toNat]? = some q := ⟨c[i + 2]'(by omega), by rw [show ((i : Int) + 2).toNat = i + 2 by omega]; simp⟩
      obtain ⟨q3, gi3⟩ : ∃ q : UInt8, c[((i : Int) + 3).toNat]? = some q := ⟨c[i + 3]'(by omega), by rw [show ((i : Int) + 3).toNat = i + 3 by omega]; simp⟩
      have l0 := q0.toNat_lt
      have l1 := q1.toNat_lt
      have l2 := q2.toNat_lt
      have l3 := q3.toNat_lt
      have w0' : IntKind.i64.wrap ((q0.toNat : Int) % 3) = (q0.toNat : Int) % 3 := IntWalk.i64_in _ (by omega)
      have w1 : IntKind.i64.wrap (q1.toNat : Int) = (q1.toNat : Int) := IntWalk.i64_in _ (by omega)
      have w2 : IntKind.i64.wrap (q2.toNat : Int) = (q2.toNat : Int) := IntWalk.i64_in _ (by omega)
      have w3 : IntKind.i64.wrap (q3.toNat : Int) = (q3.toNat : Int) := IntWalk.i64_in _ (by omega)
      have hmost := hgr.most
      have hlease := hgr.lease
      have hml := Int.emod_nonneg (IntKind.i64.wrap (q1.toNat : Int)) (show x.lease ≠ 0 by omega)
      have hml2 := Int.emod_lt_of_pos (IntKind.i64.wrap (q1.toNat : Int)) (show 0 < x.lease by omega)
      have hmm := Int.emod_nonneg (IntKind.i64.wrap (q3.toNat : Int)) (show x.most ≠ 0 by omega)
      have hmm2 := Int.emod_lt_of_pos (IntKind.i64.wrap (q3.toNat : Int)) (show 0 < x.most by omega)
      have ht60 : CallP Tryz.prog w0 28 [.int .i64 (IntKind.i64.wrap (q1.toNat : Int)), .int .i64 60] (.str (textL q1.toNat 60)) := by
        rw [w1]; exact lawtext_any w0 q1.toNat 60 (by omega) (by omega)
      have hl60 := textL_len q1.toNat 60
      obtain ⟨at_, hat, hatl⟩ : ∃ v : List UInt8, [AV.str [], .str [97, 61, 49], .str [98, 61, 50]][((q2.toNat : Int) % 3).toNat]? = some (.str v) ∧ (v = [] ∨ v = [97, 61, 49] ∨ v = [98, 61, 50]) := by
        have h : q2.toNat % 3 < 3 := Nat.mod_lt _ (by decide)
        rw [show ((q2.toNat : Int) % 3).toNat = q2.toNat % 3 by omega]
        generalize q2.toNat % 3 = q at h
        match q, h with
        | 0, _ => exact ⟨_, rfl, .inl rfl⟩
        | 1, _ => exact ⟨_, rfl, .inr (.inl rfl)⟩
        | 2, _ => exact ⟨_, rfl, .inr (.inr rfl)⟩
      obtain ⟨wy, hwy, hwyl⟩ : ∃ v : List UInt8, [AV.str [110, 97, 99, 107], .str [116, 105, 109, 101]][((q1.toNat : Int) % 2).toNat]? = some (.str v) ∧ (v = [110, 97, 99, 107] ∨ v = [116, 105, 109, 101]) := by
        have h : q1.toNat % 2 < 2 := Nat.mod_lt _ (by decide)
        rw [show ((q1.toNat : Int) % 2).toNat = q1.toNat % 2 by omega]
        generalize q1.toNat % 2 = q at h
        match q, h with
        | 0, _ => exact ⟨_, rfl, .inl rfl⟩
        | 1, _ => exact ⟨_, rfl, .inr rfl⟩
      have hnq := hgr.nqueue
      have hna := hgr.nacks
      refine W.seq ?_; refine W.seq ?_; refine W.regionL (by decide +kernel) rfl ?_; apply r_op; exact rfl; exact rfl; apply a_move; (conv => (lhs; whnf)); apply r_op; exact rfl; exact rfl; apply g_binOp; exact a_add64 rfl rfl (by omega); apply r_op; exact rfl; exact rfl; apply a_move; (conv => (lhs; whnf)); apply r_op; exact rfl; exact rfl; apply g_call; exact a_len_slc rfl; apply r_op; exact rfl
      exact rfl; apply g_binOp; exact a_binI rfl rfl rfl; apply r_op; exact rfl; exact rfl; apply a_move; (conv => (lhs; whnf)); apply r_op; exact rfl; exact want_t rfl rfl rfl (by assumption); apply a_move; (conv => (lhs; whnf)); apply r_op; exact rfl; exact want_t rfl rfl rfl (by assumption); apply g_binOp; exact a_binI rfl rfl rfl; apply r_op; exact rfl; exact rfl; apply g_pick
      apply a_pickT rfl (by assumption); (conv => (lhs; whnf)); (with_reducible refine runs_done ?_); refine W.condT rfl (by assumption) ?_; refine W.skip ?_; show W _ _ _ _ _ _ _; refine W.seq ?_; refine W.block ?_; refine W.seq ?_; refine W.regionL (by decide +kernel) rfl ?_; apply r_op; exact rfl; exact rfl; apply a_move; (conv => (lhs; whnf)); apply r_op; exact rfl; exact rfl; apply a_move
      (conv => (lhs; whnf)); apply r_op; exact rfl; exact rfl; apply a_move; (conv => (lhs; whnf)); apply r_op; exact rfl; exact rfl; apply g_indexAddr; exact a_indexAddr rfl rfl (by decide) (by omega) (by exact get_bytes (by assumption)); apply r_op; exact rfl; exact rfl; apply g_load; exact a_load1 rfl rfl; apply r_op; exact rfl; exact rfl; apply g_binOp; exact a_rem rfl rfl (by omega)
      apply r_op; exact rfl; exact rfl; apply g_convert; exact a_convI rfl; apply r_op; exact rfl; exact rfl; apply g_binOp; exact a_add64 rfl rfl (by omega); apply r_op; exact rfl; exact rfl; apply g_binOp; exact a_add64 rfl rfl (by omega); apply r_op; exact rfl; exact rfl; apply a_assign; (conv => (lhs; whnf)); (with_reducible refine runs_done ?_); refine W.seq ?_; refine W.seq ?_
      refine W.regionL (by decide +kernel) rfl ?_; apply r_op; exact rfl; exact rfl; apply a_move; (conv => (lhs; whnf)); apply r_op; exact rfl; exact rfl; apply a_move; (conv => (lhs; whnf)); apply r_op; exact rfl; exact rfl; apply g_binOp; exact a_binI rfl rfl rfl; (with_reducible refine runs_done ?_); refine W.cond rfl (fun hc => ?_) (fun hc => ?_)
      · refine W.exit ?_
        exact ⟨x, ta, tq, hgr, hs, by exact Has.by (by repeat (first | exact trivial | refine ⟨by first | trivial | exact Weak.refl _ | exact Weak.tok _ _ _ | exact Weak.of_eq (congrArg (AV.int _) (by omega)) | exact Weak.nils _ _ (.inr rfl), ?_⟩))⟩
      have hsq : seq + (1 + IntKind.i64.wrap ((q0.toNat : Int) % 3)) < next := by have := of_decide_eq_false hc; omega
      have hsq0 : 0 ≤ seq + (1 + IntKind.i64.wrap ((q0.toNat : Int) % 3)) := by omega
      have hsq1 : seq < seq + (1 + IntKind.i64.wrap ((q0.toNat : Int) % 3)) := by omega
      generalize seq + (1 + IntKind.i64.wrap ((q0.toNat : Int) % 3)) = seq1 at hsq hsq0 hsq1 ⊢
      clear hc; refine W.skip ?_; show W _ _ _ _ _ _ _; refine W.seq ?_; refine W.meet (fun E s' => s' = s ∧ Has [(0, .slc 1 (aBytes c) t), (2, .int .i64 clock), (3, .int .i64 next), (8, .ptr b8 0), (9, .ptr bx 0), (10, .int .i64 seq1), (11, .int .i64 i)] E) ?_ ?_
      · have hm0 := Moves.refl hs.ma.room
        refine W.seq ?_; refine W.regionL (by decide +kernel) rfl ?_; apply r_op; exact rfl; exact rfl; apply a_move; (conv => (lhs; whnf)); apply r_op; exact rfl; exact rfl; apply a_move; (conv => (lhs; whnf)); apply r_op; exact rfl; exact rfl; apply g_indexAddr; exact a_indexAddr rfl rfl (by decide) (by omega) (by exact get_bytes (by assumption)); apply r_op; exact rfl; exact rfl; apply g_load
        exact a_load1 rfl rfl; apply r_op; exact rfl; exact rfl; apply g_binOp; exact a_binI rfl rfl rfl; apply r_op; exact rfl; exact rfl; apply a_move; (conv => (lhs; whnf)); refine q_split rfl rfl rfl (fun hg => ?_) (fun hg => ?_); apply r_op; exact rfl; exact want_t rfl rfl rfl (by assumption); apply g_fieldAddr; exact a_fieldAddrP rfl (by decide); apply r_load; exact rfl; exact rfl; exact rfl
        decide; exact want_t rfl rfl rfl (by assumption); assumption; exact aLoad1 rfl; apply r_op; exact rfl; exact want_t rfl rfl rfl (by assumption); apply g_call; exact a_len_slc rfl; apply r_op; exact rfl; exact want_t rfl rfl rfl (by assumption); apply g_binOp; exact a_binI rfl rfl rfl; apply r_op; exact rfl; exact rfl; apply g_pick; apply a_pickT rfl (by assumption); (conv => (lhs; whnf))
        (with_reducible refine runs_done ?_); refine W.cond rfl (fun hc => ?_) (fun hc => ?_); refine W.seq ?_; refine W.regionL (by decide +kernel) rfl ?_; apply r_op; exact rfl; exact rfl; apply g_fieldAddr; exact a_fieldAddrP rfl (by decide); apply r_load; exact rfl; exact rfl; exact rfl; decide; exact rfl; assumption; exact aLoad1 rfl; apply r_op; exact rfl; exact rfl; apply a_move
        (conv => (lhs; whnf)); apply r_op; exact rfl; exact rfl; apply g_buildSlice; apply a_build1; (conv => (lhs; whnf)); exact rfl; exact rfl; decide; apply r_append'; exact rfl; exact rfl; decide; infer_instance; exact rfl; exact rfl; exact rfl; exact rfl; exact rfl; assumption
        simp only [length_aBytes, List.length_append, List.length_cons, List.length_nil, List.length_map, List.length_range]
        omega; intro tk1 σ1 hm; apply r_op; exact rfl; exact rfl; apply g_fieldAddr; exact a_fieldAddrP rfl (by decide); apply r_store; exact rfl; exact rfl; exact rfl; decide; infer_instance; exact rfl; apply hb_moves (by assumption); assumption; (conv => (lhs; whnf)); exact rfl; (conv => (lhs; whnf)); exact rfl; exact of_decide_eq_true rfl; exact rfl; (with_reducible refine runs_done ?_)
        refine W.exit ?_; show W _ _ _ _ _ _ _; refine W.regionL (by decide +kernel) rfl ?_; apply r_op; exact rfl; exact rfl; apply a_move; (conv => (lhs; whnf)); apply r_op; exact rfl; exact rfl; apply g_binOp; exact a_add64 rfl rfl (by omega); apply r_op; exact rfl; exact rfl; apply a_assign; (conv => (lhs; whnf)); (with_reducible refine runs_done ?_); rotate_left; refine W.skip ?_; rotate_left
        apply q_skip; exact rfl; exact want_f rfl rfl rfl (by assumption); apply q_skip; exact rfl; exact want_f rfl rfl rfl (by assumption); apply q_skip; exact rfl; exact want_f rfl rfl rfl (by assumption); apply q_skip; exact rfl; exact want_f rfl rfl rfl (by assumption); apply r_op; exact rfl; exact rfl; apply g_pick; apply a_pickF rfl (by assumption); (conv => (lhs; whnf))
        (with_reducible refine runs_done ?_); refine W.condF rfl (by exact rfl) ?_; refine W.skip ?_; rotate_left
        · have hq20 : x.acks.length < 20 := by have := of_decide_eq_true hc; simp at this; omega
          have h9 := hs.acks (x' := { x with acks := x.acks ++ [seq1] }) hne hbx hm
          simp only [subC, List.map_append, List.map_cons, List.map_nil] at h9
          obtain ⟨k1, k2⟩ := hgr.ack hup hsq1 hsq hq20
          exact ⟨100 - (i + 4), by omega, i + 4, seq1, { x with acks := x.acks ++ [seq1] }, tk1, tq, rfl, by omega, by omega, hsq0, hsq, k1, k2, h9, by exact Has.by (by repeat (first | exact trivial | refine ⟨by first | trivial | exact Weak.refl _ | exact Weak.tok _ _ _ | exact Weak.of_eq (congrArg (AV.int _) (by omega)) | exact Weak.nils _ _ (.inr rfl), ?_⟩))⟩
        · exact ⟨rfl, by exact Has.by (by repeat (first | exact trivial | refine ⟨by first | trivial | exact Weak.refl _ | exact Weak.tok _ _ _ | exact Weak.of_eq (congrArg (AV.int _) (by omega)) | exact Weak.nils _ _ (.inr rfl), ?_⟩))⟩
        · exact ⟨rfl, by exact Has.by (by repeat (first | exact trivial | refine ⟨by first | trivial | exact Weak.refl _ | exact Weak.tok _ _ _ | exact Weak.of_eq (congrArg (AV.int _) (by omega)) | exact Weak.nils _ _ (.inr rfl), ?_⟩))⟩
      · rintro E s' ⟨rfl, hE⟩
        refine W.has hE ?_; clear hE; refine W.seq ?_; refine W.seq ?_; refine W.regionL (by decide +kernel) rfl ?_; apply r_op; exact rfl; exact rfl; apply g_fieldAddr; exact a_fieldAddrP rfl (by decide); apply r_load; exact rfl; exact rfl; exact rfl; decide; exact rfl; assumption; exact aLoad1 rfl; apply r_op; exact rfl; exact rfl; apply g_call; exact a_len_slc rfl; apply r_op; exact rfl
        exact rfl; apply g_binOp; exact a_binI rfl rfl rfl; (with_reducible refine runs_done ?_); refine W.cond rfl (fun hc => ?_) (fun hc => ?_)
        · refine W.exit ?_
          exact ⟨x, ta, tq, hgr, hs, by exact Has.by (by repeat (first | exact trivial | refine ⟨by first | trivial | exact Weak.refl _ | exact Weak.tok _ _ _ | exact Weak.of_eq (congrArg (AV.int _) (by omega)) | exact Weak.nils _ _ (.inr rfl), ?_⟩))⟩
        have hq30 : x.queue.length < 30 := by have := of_decide_eq_false hc; simp at this; omega
        clear hc; refine W.skip ?_; show W _ _ _ _ _ _ _; refine W.seq ?_; refine W.regionDK 0 [] Ty.mixed (by decide +kernel) (by decide +kernel) rfl ?_; apply r_op; exact rfl; exact rfl; apply a_move; (conv => (lhs; whnf)); apply r_op; exact rfl; exact rfl; apply a_move; (conv => (lhs; whnf)); apply r_op; exact rfl; exact rfl; apply a_move; (conv => (lhs; whnf)); apply r_op; exact rfl; exact rfl
        apply g_binOp; exact a_add64 rfl rfl (by omega); apply r_op; exact rfl; exact rfl; apply g_indexAddr; exact a_indexAddr rfl rfl (by decide) (by omega) (by exact get_bytes (by assumption)); apply r_op; exact rfl; exact rfl; apply g_load; exact a_load1 rfl rfl; apply r_op; exact rfl; exact rfl; apply g_convert; exact a_convI rfl; apply r_callP; exact rfl; exact rfl; exact rfl; exact rfl
        exact rfl; infer_instance; exact ht60; apply r_op; exact rfl; exact rfl; apply g_buildSlice; apply a_buildN; apply EvP.cons (by (conv => (lhs; whnf))); apply EvP.cons (by (conv => (lhs; whnf))); apply EvP.cons (by (conv => (lhs; whnf))); exact EvP.nil; (conv => (lhs; whnf)); exact rfl; exact rfl; decide; apply r_op; exact rfl; exact rfl; apply a_move; (conv => (lhs; whnf)); apply r_op
        exact rfl; exact rfl; apply a_move; (conv => (lhs; whnf)); apply r_op; exact rfl; exact rfl; apply g_binOp; exact a_add64 rfl rfl (by omega); apply r_op; exact rfl; exact rfl; apply g_indexAddr; exact a_indexAddr rfl rfl (by decide) (by omega) (by exact get_bytes (by assumption)); apply r_op; exact rfl; exact rfl; apply g_load; exact a_load1 rfl rfl; apply r_op; exact rfl; exact rfl
        apply g_binOp; exact a_rem rfl rfl (by omega); apply r_op; exact rfl; exact rfl; apply g_indexAddr; exact a_indexAddr rfl rfl (by decide) (by omega) (by assumption); apply r_op; exact rfl; exact rfl; apply g_load; exact a_load1 rfl rfl; apply r_op; exact rfl; exact rfl; apply g_build; apply a_build; apply EvP.cons (by (conv => (lhs; whnf))); apply EvP.cons (by (conv => (lhs; whnf)))
        apply EvP.cons (by (conv => (lhs; whnf))); exact EvP.nil
        simp only [aFill, List.getElem?_cons_zero, List.getElem?_cons_succ, AV.cells, List.length_cons, List.length_nil, AV.flat, AV.one, setL, List.set_cons_zero, List.set_cons_succ, Nat.reduceAdd, Nat.reduceLeDiff, Nat.reduceMul, and_self, if_true, ↓reduceIte, Nat.zero_add, Nat.le_refl, List.range, List.range.loop, List.map_cons, List.map_nil, Nat.zero_le]
        rfl; apply r_alloc; exact rfl; exact rfl; decide; exact rfl; (conv => (lhs; whnf)); intro b1 hb1; apply r_store; exact rfl; exact rfl; exact rfl; decide; infer_instance; exact rfl; exact setBox_same; (conv => (lhs; whnf)); exact rfl; (conv => (lhs; whnf)); exact rfl; exact of_decide_eq_true rfl; exact setL_whole rfl; refine runs_done ?_; show W _ _ _ _ _ _ _
        generalize b1 = b12 at hb1 ⊢
        have hb12 : s'.box b12 = none := hb1
        clear hb1
        have hσ12 := none_moves hs.ma hb12
        have h812 : b8 ≠ b12 := (ne_some hs.r hb12).symm
        have hx12 : bx ≠ b12 := (ne_some hs.b hb12).symm
        have h12x : b12 ≠ bx := hx12.symm
        refine W.seq ?_
        refine W.meet (fun E s => ∃ m : Msg, (m.seq = seq1 ∧ m.body.length ≤ 60 ∧ (m.attr = [] ∨ m.attr = [97, 61, 49] ∨ m.attr = [98, 61, 50]) ∧ (0 ≤ m.prio ∧ m.prio ≤ 9) ∧ m.tries = 0 ∧ m.until_ = 0 ∧ m.dead = false ∧ m.why = []) ∧ s = s'.setBox b12 (msgC m) ∧ Has [(0, .slc 1 (aBytes c) t), (2, .int .i64 clock), (3, .int .i64 next), (8, .ptr b8 0), (9, .ptr bx 0), (10, .int .i64 seq1), (11, .int .i64 i), (12, .ptr b12 0)] E) ?_ ?_
        · refine W.seq ?_
          refine W.regionL (by decide +kernel) rfl ?_; apply r_op; exact rfl; exact rfl; apply a_move; (conv => (lhs; whnf)); apply r_op; exact rfl; exact rfl; apply a_move; (conv => (lhs; whnf)); apply r_op; exact rfl; exact rfl; apply g_binOp; exact a_add64 rfl rfl (by omega); apply r_op; exact rfl; exact rfl; apply g_indexAddr
          exact a_indexAddr rfl rfl (by decide) (by omega) (by exact get_bytes (by assumption)); apply r_op; exact rfl; exact rfl; apply g_load; exact a_load1 rfl rfl; apply r_op; exact rfl; exact rfl; apply g_binOp; exact a_binI rfl rfl rfl; (with_reducible refine runs_done ?_); refine W.cond rfl (fun hc => ?_) (fun hc => ?_); refine W.regionL (by decide +kernel) rfl ?_; apply r_op; exact rfl
          exact rfl; apply a_move; (conv => (lhs; whnf)); apply r_op; exact rfl; exact rfl; apply a_move; (conv => (lhs; whnf)); apply r_op; exact rfl; exact rfl; apply g_binOp; exact a_add64 rfl rfl (by omega); apply r_op; exact rfl; exact rfl; apply g_indexAddr; exact a_indexAddr rfl rfl (by decide) (by omega) (by exact get_bytes (by assumption)); apply r_op; exact rfl; exact rfl; apply g_load
          exact a_load1 rfl rfl; apply r_op; exact rfl; exact rfl; apply g_convert; exact a_convI rfl; apply r_op; exact rfl; exact rfl; apply g_binOp; exact a_rem rfl rfl (by omega); apply r_op; exact rfl; exact rfl; apply g_fieldAddr; exact a_fieldAddrP rfl (by decide); apply r_store; exact rfl; exact rfl; exact rfl; decide; infer_instance; exact rfl; exact setBox_same; (conv => (lhs; whnf))
          exact rfl; (conv => (lhs; whnf)); exact rfl; exact of_decide_eq_true rfl; exact rfl; (with_reducible refine runs_done ?_); rotate_left; refine W.skip ?_; rotate_left
          · exact ⟨⟨seq1, textL q1.toNat 60, at_, 0, 0, false, [], IntKind.i64.wrap (q2.toNat : Int) % 10⟩, ⟨rfl, hl60, hatl, by constructor <;> (show _ ≤ _; dsimp only; omega), rfl, rfl, rfl, rfl⟩, by simp only [setBox_setBox]; rfl, by exact Has.by (by repeat (first | exact trivial | refine ⟨by first | trivial | exact Weak.refl _ | exact Weak.tok _ _ _ | exact Weak.of_eq (congrArg (AV.int _) (by omega)) | exact Weak.nils _ _ (.inr rfl), ?_⟩))⟩
          · exact ⟨⟨seq1, textL q1.toNat 60, at_, 0, 0, false, [], 0⟩, ⟨rfl, hl60, hatl, (show (0 : Int) ≤ 0 ∧ (0 : Int) ≤ 9 from ⟨by decide, by decide⟩), rfl, rfl, rfl, rfl⟩, by simp only [setBox_setBox]; rfl, by exact Has.by (by repeat (first | exact trivial | refine ⟨by first | trivial | exact Weak.refl _ | exact Weak.tok _ _ _ | exact Weak.of_eq (congrArg (AV.int _) (by omega)) | exact Weak.nils _ _ (.inr rfl), ?_⟩))⟩
        · rintro E s2 ⟨m, ⟨ms, mb, ma, mp, mt, mu, md, mw⟩, rfl, hE⟩
          refine W.has hE ?_; clear hE; refine W.seq ?_; refine W.meet (fun E s => ∃ m : Msg, (m.seq = seq1 ∧ MsgOk clock x.most x.lease m) ∧ s = s'.setBox b12 (msgC m) ∧ Has [(0, .slc 1 (aBytes c) t), (2, .int .i64 clock), (3, .int .i64 next), (8, .ptr b8 0), (9, .ptr bx 0), (10, .int .i64 seq1), (11, .int .i64 i), (12, .ptr b12 0)] E) ?_ ?_
          · refine W.seq ?_
            refine W.regionL (by decide +kernel) rfl ?_; apply r_op; exact rfl; exact rfl; apply a_move; (conv => (lhs; whnf)); apply r_op; exact rfl; exact rfl; apply a_move; (conv => (lhs; whnf)); apply r_op; exact rfl; exact rfl; apply g_binOp; exact a_add64 rfl rfl (by omega); apply r_op; exact rfl; exact rfl; apply g_indexAddr
            exact a_indexAddr rfl rfl (by decide) (by omega) (by exact get_bytes (by assumption)); apply r_op; exact rfl; exact rfl; apply g_load; exact a_load1 rfl rfl; apply r_op; exact rfl; exact rfl; apply g_binOp; exact a_rem rfl rfl (by omega); (with_reducible refine runs_done ?_); refine W.block ?_; refine W.seq ?_; refine W.regionL (by decide +kernel) rfl ?_; apply r_op; exact rfl; exact rfl
            apply g_binOp; exact a_binI rfl rfl rfl; apply r_op; exact rfl; exact rfl; apply a_assign; (conv => (lhs; whnf)); (with_reducible refine runs_done ?_); refine W.cond rfl (fun hc => ?_) (fun hc => ?_); refine W.regionDK 1 [] Ty.mixed (by decide +kernel) (by decide +kernel) rfl ?_; apply r_op; exact rfl; exact rfl; apply a_move; (conv => (lhs; whnf)); apply r_op; exact rfl; exact rfl
            apply a_move; (conv => (lhs; whnf)); apply r_op; exact rfl; exact rfl; apply g_binOp; exact a_add64 rfl rfl (by omega); apply r_op; exact rfl; exact rfl; apply g_indexAddr; exact a_indexAddr rfl rfl (by decide) (by omega) (by exact get_bytes (by assumption)); apply r_op; exact rfl; exact rfl; apply g_load; exact a_load1 rfl rfl; apply r_op; exact rfl; exact rfl; apply g_convert
            exact a_convI rfl; apply r_op; exact rfl; exact rfl; apply g_fieldAddr; exact a_fieldAddrP rfl (by decide); apply r_load; exact rfl; exact rfl; exact rfl; decide; exact rfl; apply hb_ne (by assumption); assumption; exact aLoad1 rfl; apply r_op; exact rfl; exact rfl; apply g_binOp; exact a_rem rfl rfl (by omega); apply r_op; exact rfl; exact rfl; apply g_fieldAddr
            exact a_fieldAddrP rfl (by decide); apply r_store; exact rfl; exact rfl; exact rfl; decide; infer_instance; exact rfl; exact setBox_same; (conv => (lhs; whnf)); exact rfl; (conv => (lhs; whnf)); exact rfl; exact of_decide_eq_true rfl; exact rfl; (with_reducible refine runs_done ?_); rotate_left; refine W.seq ?_; refine W.regionL (by decide +kernel) rfl ?_; apply r_op; exact rfl; exact rfl
            apply g_binOp; exact a_binI rfl rfl rfl; apply r_op; exact rfl; exact rfl; apply a_assign; (conv => (lhs; whnf)); (with_reducible refine runs_done ?_); refine W.cond rfl (fun hc => ?_) (fun hc => ?_); refine W.seq ?_; refine W.regionDK 1 [] Ty.mixed (by decide +kernel) (by decide +kernel) rfl ?_; apply r_op; exact rfl; exact rfl; apply a_move; (conv => (lhs; whnf)); apply r_op; exact rfl
            exact rfl; apply a_move; (conv => (lhs; whnf)); apply r_op; exact rfl; exact rfl; apply g_binOp; exact a_add64 rfl rfl (by omega); apply r_op; exact rfl; exact rfl; apply g_indexAddr; exact a_indexAddr rfl rfl (by decide) (by omega) (by exact get_bytes (by assumption)); apply r_op; exact rfl; exact rfl; apply g_load; exact a_load1 rfl rfl; apply r_op; exact rfl; exact rfl
            apply g_convert; exact a_convI rfl; apply r_op; exact rfl; exact rfl; apply g_fieldAddr; exact a_fieldAddrP rfl (by decide); apply r_load; exact rfl; exact rfl; exact rfl; decide; exact rfl; apply hb_ne (by assumption); assumption; exact aLoad1 rfl; apply r_op; exact rfl; exact rfl; apply g_binOp; exact a_rem rfl rfl (by omega); apply r_op; exact rfl; exact rfl; apply g_binOp
            exact a_add64 rfl rfl (by omega); apply r_op; exact rfl; exact rfl; apply g_fieldAddr; exact a_fieldAddrP rfl (by decide); apply r_store; exact rfl; exact rfl; exact rfl; decide; infer_instance; exact rfl; exact setBox_same; (conv => (lhs; whnf)); exact rfl; (conv => (lhs; whnf)); exact rfl; exact of_decide_eq_true rfl; exact rfl; (with_reducible refine runs_done ?_)
            refine W.regionDK 1 [] Ty.mixed (by decide +kernel) (by decide +kernel) rfl ?_; apply r_op; exact rfl; exact rfl; apply a_move; (conv => (lhs; whnf)); apply r_op; exact rfl; exact rfl; apply g_binOp; exact a_add64 rfl rfl (by omega); apply r_op; exact rfl; exact rfl; apply a_move; (conv => (lhs; whnf)); apply r_op; exact rfl; exact rfl; apply a_move; (conv => (lhs; whnf)); apply r_op
            exact rfl; exact rfl; apply g_binOp; exact a_add64 rfl rfl (by omega); apply r_op; exact rfl; exact rfl; apply g_indexAddr; exact a_indexAddr rfl rfl (by decide) (by omega) (by exact get_bytes (by assumption)); apply r_op; exact rfl; exact rfl; apply g_load; exact a_load1 rfl rfl; apply r_op; exact rfl; exact rfl; apply g_convert; exact a_convI rfl; apply r_op; exact rfl; exact rfl
            apply g_fieldAddr; exact a_fieldAddrP rfl (by decide); apply r_load; exact rfl; exact rfl; exact rfl; decide; exact rfl; apply hb_ne (by assumption); apply hb_ne (by assumption); assumption; exact aLoad1 rfl; apply r_op; exact rfl; exact rfl; apply g_binOp; exact a_rem rfl rfl (by omega); apply r_op; exact rfl; exact rfl; apply g_binOp; exact a_add64 rfl rfl (by omega); apply r_op
            exact rfl; exact rfl; apply g_fieldAddr; exact a_fieldAddrP rfl (by decide); apply r_store; exact rfl; exact rfl; exact rfl; decide; infer_instance; exact rfl; exact setBox_same; (conv => (lhs; whnf)); exact rfl; (conv => (lhs; whnf)); exact rfl; exact of_decide_eq_true rfl; exact rfl; (with_reducible refine runs_done ?_); rotate_left; refine W.seq ?_
            refine W.regionL (by decide +kernel) rfl ?_; apply r_op; exact rfl; exact rfl; apply g_binOp; exact a_binI rfl rfl rfl; apply r_op; exact rfl; exact rfl; apply a_assign; (conv => (lhs; whnf)); (with_reducible refine runs_done ?_); refine W.cond rfl (fun hc => ?_) (fun hc => ?_); refine W.seq ?_; refine W.regionL (by decide +kernel) rfl ?_; apply r_op; exact rfl; exact rfl
            apply g_fieldAddr; exact a_fieldAddrP rfl (by decide); apply r_store; exact rfl; exact rfl; exact rfl; decide; infer_instance; exact rfl; exact setBox_same; (conv => (lhs; whnf)); exact rfl; (conv => (lhs; whnf)); exact rfl; exact of_decide_eq_true rfl; exact rfl; (with_reducible refine runs_done ?_); refine W.seq ?_; refine W.regionL (by decide +kernel) rfl ?_; apply r_op; exact rfl
            exact rfl; apply g_fieldAddr; exact a_fieldAddrP rfl (by decide); apply r_load; exact rfl; exact rfl; exact rfl; decide; exact rfl; apply hb_ne (by assumption); apply hb_ne (by assumption); assumption; exact aLoad1 rfl; apply r_op; exact rfl; exact rfl; apply g_fieldAddr; exact a_fieldAddrP rfl (by decide); apply r_store; exact rfl; exact rfl; exact rfl; decide; infer_instance
            exact rfl; exact setBox_same; (conv => (lhs; whnf)); exact rfl; (conv => (lhs; whnf)); exact rfl; exact of_decide_eq_true rfl; exact rfl; (with_reducible refine runs_done ?_); refine W.regionL (by decide +kernel) rfl ?_; apply r_op; exact rfl; exact rfl; apply g_buildSlice; apply a_buildN; apply EvP.cons (by (conv => (lhs; whnf))); apply EvP.cons (by (conv => (lhs; whnf))); exact EvP.nil
            (conv => (lhs; whnf)); exact rfl; exact rfl; decide; apply r_op; exact rfl; exact rfl; apply a_move; (conv => (lhs; whnf)); apply r_op; exact rfl; exact rfl; apply a_move; (conv => (lhs; whnf)); apply r_op; exact rfl; exact rfl; apply g_binOp; exact a_add64 rfl rfl (by omega); apply r_op; exact rfl; exact rfl; apply g_indexAddr
            exact a_indexAddr rfl rfl (by decide) (by omega) (by exact get_bytes (by assumption)); apply r_op; exact rfl; exact rfl; apply g_load; exact a_load1 rfl rfl; apply r_op; exact rfl; exact rfl; apply g_binOp; exact a_rem rfl rfl (by omega); apply r_op; exact rfl; exact rfl; apply g_indexAddr; exact a_indexAddr rfl rfl (by decide) (by omega) (by assumption); apply r_op; exact rfl
            exact rfl; apply g_load; exact a_load1 rfl rfl; apply r_op; exact rfl; exact rfl; apply g_fieldAddr; exact a_fieldAddrP rfl (by decide); apply r_store; exact rfl; exact rfl; exact rfl; decide; infer_instance; exact rfl; exact setBox_same; (conv => (lhs; whnf)); exact rfl; (conv => (lhs; whnf)); exact rfl; exact of_decide_eq_true rfl; exact rfl; (with_reducible refine runs_done ?_)
            rotate_left; refine W.skip ?_; rotate_left
            · exact ⟨{ m with tries := IntKind.i64.wrap (q3.toNat : Int) % x.most }, ⟨ms, mb, ma, mp, .inl ⟨md, mw, mu, hmm, hmm2⟩⟩, by simp only [setBox_setBox]; rfl, by exact Has.by (by repeat (first | exact trivial | refine ⟨by first | trivial | exact Weak.refl _ | exact Weak.tok _ _ _ | exact Weak.of_eq (congrArg (AV.int _) (by omega)) | exact Weak.nils _ _ (.inr rfl), ?_⟩))⟩
            · exact ⟨{ m with tries := 1 + IntKind.i64.wrap (q3.toNat : Int) % x.most, until_ := (clock : Int) + 1 + IntKind.i64.wrap (q1.toNat : Int) % x.lease }, ⟨ms, mb, ma, mp, .inr (.inl ⟨md, mw, by constructor <;> (dsimp only; omega), by constructor <;> (dsimp only; omega)⟩)⟩, by simp only [setBox_setBox]; rfl, by exact Has.by (by repeat (first | exact trivial | refine ⟨by first | trivial | exact Weak.refl _ | exact Weak.tok _ _ _ | exact Weak.of_eq (congrArg (AV.int _) (by omega)) | exact Weak.nils _ _ (.inr rfl), ?_⟩))⟩
            · exact ⟨{ m with dead := true, tries := x.most, why := wy }, ⟨ms, mb, ma, mp, .inr (.inr ⟨rfl, mu, rfl, hwyl⟩)⟩, by simp only [setBox_setBox]; rfl, by exact Has.by (by repeat (first | exact trivial | refine ⟨by first | trivial | exact Weak.refl _ | exact Weak.tok _ _ _ | exact Weak.of_eq (congrArg (AV.int _) (by omega)) | exact Weak.nils _ _ (.inr rfl), ?_⟩))⟩
            · exact ⟨m, ⟨ms, mb, ma, mp, .inl ⟨md, mw, mu, by omega, by omega⟩⟩, rfl, by exact Has.by (by repeat (first | exact trivial | refine ⟨by first | trivial | exact Weak.refl _ | exact Weak.tok _ _ _ | exact Weak.of_eq (congrArg (AV.int _) (by omega)) | exact Weak.nils _ _ (.inr rfl), ?_⟩))⟩
          · rintro E s3 ⟨m, ⟨ms, hma⟩, rfl, hE⟩
            refine W.has hE ?_; clear hE
            have hs3 := hs.other (cs := msgC m) h812 hx12 hσ12
            have hb3 := hs3.b
            have hm0 := Moves.refl hs3.mq.room
            refine W.regionL (by decide +kernel) rfl ?_; apply r_op; exact rfl; exact rfl; apply g_fieldAddr; exact a_fieldAddrP rfl (by decide); apply r_load; exact rfl; exact rfl; exact rfl; decide; exact rfl; assumption; exact aLoad1 rfl; apply r_load; exact rfl; exact rfl; exact rfl; decide; exact rfl; exact setBox_same; exact aLoadA rfl (by rfl) rfl; apply r_op; exact rfl; exact rfl
            apply g_buildSlice; apply a_build1; (conv => (lhs; whnf)); exact rfl; exact rfl; decide; apply r_append'; exact rfl; exact rfl; decide; infer_instance; exact rfl; exact rfl; exact rfl; exact rfl; exact rfl; assumption
            simp only [length_aBytes, List.length_append, List.length_cons, List.length_nil, List.length_map, List.length_range]
            omega; intro tk1 σ1 hm; apply r_op; exact rfl; exact rfl; apply g_fieldAddr; exact a_fieldAddrP rfl (by decide); apply r_store; exact rfl; exact rfl; exact rfl; decide; infer_instance; exact rfl; apply hb_moves (by assumption); assumption; (conv => (lhs; whnf)); exact rfl; (conv => (lhs; whnf)); exact rfl; exact of_decide_eq_true rfl; exact rfl; (with_reducible refine runs_done ?_)
            refine W.regionL (by decide +kernel) rfl ?_; apply r_op; exact rfl; exact rfl; apply a_move; (conv => (lhs; whnf)); apply r_op; exact rfl; exact rfl; apply g_binOp; exact a_add64 rfl rfl (by omega); apply r_op; exact rfl; exact rfl; apply a_assign; (conv => (lhs; whnf)); (with_reducible refine runs_done ?_)
            have h9 := hs3.queue (x' := { x with queue := x.queue ++ [m] }) hne hbx hm
            simp only [subC, List.map_append, List.map_cons, List.map_nil] at h9
            obtain ⟨k1, k2⟩ := hgr.msg hup (by rw [ms]; exact hsq1) (by rw [ms]; exact hsq) hq30 hma
            rw [ms] at k2
            exact ⟨100 - (i + 4), by omega, i + 4, seq1, { x with queue := x.queue ++ [m] }, ta, tk1, rfl, by omega, by omega, hsq0, hsq, k1, k2, h9, by exact Has.by (by repeat (first | exact trivial | refine ⟨by first | trivial | exact Weak.refl _ | exact Weak.tok _ _ _ | exact Weak.of_eq (congrArg (AV.int _) (by omega)) | exact Weak.nils _ _ (.inr rfl), ?_⟩))⟩
    · rintro E s ⟨x, ta, tq, hgr, hs, hE⟩
      refine W.has hE ?_; clear hE
      have hb := hs.b
      have hr := hs.r
      refine W.seq ?_; refine W.regionL (by decide +kernel) rfl ?_; apply r_load; exact rfl; exact rfl; exact rfl; decide; exact rfl; assumption; exact aLoadA rfl (by rfl) rfl; apply r_store; exact rfl; exact rfl; exact rfl; decide; infer_instance; exact rfl; assumption; (conv => (lhs; whnf)); exact rfl; (conv => (lhs; whnf)); exact rfl; exact of_decide_eq_true rfl; exact setL_whole rfl
      (with_reducible refine runs_done ?_); refine W.ret ?_; show Q Exit.ret _ _; refine post_le (σ' := σ) hQ (by apply res_cell; exact rfl; exact setBox_same; exact aLoadA rfl (by rfl) rfl; exact res_nil) rfl (weak_sub x ta tq) (le_setBox hs.ma.le hb8) ?_ (.inl rfl)
      exact ⟨x, rfl, hgr, rfl⟩
end Go.Proofs.YtgliemhhnkhboaaGreatDoor
end
section
set_option linter.unusedVariables false
set_option linter.unusedSimpArgs false
set_option maxRecDepth 100000
set_option maxHeartbeats 2000000
namespace Go.Proofs.YtgliemhhnkhboaaGreatDoor
open Go.Al Go.RowKit
theorem refWithout_any (w0 : Base) (s : Stt) (id : Int) (hf : Fine s.subs) : CallP Tryz.prog w0 41 [eStt s, .int .i64 id] (eStt { s with subs := wo s.subs id }) := by
  refine CallP.h Ty.tok Ty.mixed Tryz.func41 rfl Tryz.ntmps41 rfl (by simp) (by decide +kernel) fun σ => ?_
  obtain ⟨clock, next, last, l⟩ := s
  dsimp only at hf ⊢
  have hn := hf.n
  (conv => whnf); refine Hid.seq ?_; refine Hid.reg ?_; (conv => whnf); refine SBox.b rfl ?_; (conv => whnf); intro b2 hb2; (conv => whnf); intro b4 hb4; (conv => whnf); refine Hid.seq ?_; refine Hid.reg ?_; (conv => whnf); refine Hid.seq ?_; refine Hid.seq ?_; refine Hid.reg ?_; (conv => whnf); refine Hid.block ?_; refine Hid.loop ?_
  have h4 := le_none (le_new (.refl _) hb2) hb4
  have hle0 : St.Le σ ((σ.setBox b2 [.int .i64 clock, .int .i64 next, .int .i64 last, eSubs l]).setBox b4 [.int .i64 0, .int .i64 0, .int .i64 0, .nils]) := le_setBox (le_setBox (.refl _) hb2) h4
  refine SLoop.by Ty.mixed (fun ((i, tk) : Nat × Tok) => l.length - i) (fun (i, tk) => [(1, .int .i64 id), (2, .ptr b2 0), (4, .ptr b4 0), (5, .slc 10 (wr l id i) tk), (6, .int .i64 i)]) (fun _ => [(b4, [.int .i64 0, .int .i64 0, .int .i64 0, .nils]), (b2, [.int .i64 clock, .int .i64 next, .int .i64 last, eSubs l])])
    (fun (i, tk) τ => i ≤ l.length ∧ Moves ((σ.setBox b2 [.int .i64 clock, .int .i64 next, .int .i64 last, eSubs l]).setBox b4 [.int .i64 0, .int .i64 0, .int .i64 0, .nils]) .full τ tk) (0, .full) ⟨by repeat (first | exact trivial | refine ⟨by first | trivial | exact Weak.refl _ | exact Weak.tok _ _ _ | exact Weak.of_eq (congrArg (AV.int _) (by omega)) | exact Weak.of_eq (congrArg AV.bool (by fail)) | exact Weak.nils _ _ (.inr rfl), ?_⟩), .refl _, Nat.zero_le _, .full _⟩ ?_
  rintro ⟨i, tk⟩ τ ⟨hi, hm⟩
  have hml : (l.map eSub).length = l.length := by simp
  by_cases hlt : i < l.length
  · have ga : (l.map eSub)[i]? = some (eSub l[i]) := by simp [hlt]
    have hwo := wo_take id (List.getElem?_eq_getElem hlt)
    have hwl : (wr l id i).length ≤ 100000000 := by
      have h1 := wo_len (l.take i) id
      have h2 := List.length_take_le i l
      rw [wr, List.length_map]; omega
    generalize l[i] = x at *
    have e1 : ¬ x.id = id → wr l id (i + 1) = wr l id i ++ [eSub x] := fun h => by rw [wr, hwo, if_neg h, List.map_append]; rfl
    have e2 : x.id = id → wr l id (i + 1) = wr l id i := fun h => by rw [wr, hwo, if_pos h]; rfl
    refine Xc_h ?_; (conv => whnf); refine Hid.seq ?_; refine Hid.seq ?_; refine Hid.reg ?_; (conv => whnf); refine SLoad.on 1 rfl ?_; (conv => whnf); refine Hid.cond rfl ?_; refine SIf.y Ty.mixed (decide_eq_true (by rw [hml]; omega)) ?_; refine Xc_h ?_; (conv => whnf); refine Hid.skip ?_; (conv => whnf); refine Hid.seq ?_; refine Hid.seq ?_; refine Hid.reg ?_; (conv => whnf)
    refine SLoad.on 1 rfl ?_; (conv => whnf)
    refine ⟨_, ⟨by first | omega | (rw [hml]; omega) | (simp only [hml]; omega) | fail, by exact ga⟩, ?_⟩
    (conv => whnf); refine Hid.cond rfl ?_
    by_cases he : x.id = id
    · refine SIf.n Ty.mixed (by simp [he]) ?_
      refine Xc_h ?_; (conv => whnf); refine Hid.skip ?_; (conv => whnf); refine Hid.reg ?_; (conv => whnf); refine ⟨_, IntWalk.i64_in _ (by omega), ?_⟩; (conv => whnf)
      exact ⟨(i + 1, tk), by show l.length - (i + 1) < l.length - i; omega, by show xWeak [(1, .int .i64 id), (2, .ptr b2 0), (4, .ptr b4 0), (5, .slc 10 (wr l id (i + 1)) tk), (6, .int .i64 (i + 1 : Nat))] _; rw [e2 he]; repeat (first | exact trivial | refine ⟨by first | trivial | exact Weak.refl _ | exact Weak.tok _ _ _ | exact Weak.of_eq (congrArg (AV.int _) (by omega)) | exact Weak.of_eq (congrArg AV.bool (by fail)) | exact Weak.nils _ _ (.inr rfl), ?_⟩), .refl _, hlt, hm⟩
    · refine SIf.y Ty.mixed (by simp [he]) ?_
      refine Xc_h ?_; (conv => whnf); refine Hid.reg ?_; (conv => whnf); refine SLoad.on 1 rfl ?_; (conv => whnf)
      refine ⟨_, ⟨by first | omega | (rw [hml]; omega) | (simp only [hml]; omega) | fail, by exact ga⟩, ?_⟩
      (conv => whnf)
      refine SApp.c rfl rfl (by assumption) (by simp only [List.length_cons, List.length_nil]; omega) fun tk1 σ1 hm => ?_
      (conv => whnf); refine Hid.reg ?_; (conv => whnf); refine ⟨_, IntWalk.i64_in _ (by omega), ?_⟩; (conv => whnf)
      exact ⟨(i + 1, tk1), by show l.length - (i + 1) < l.length - i; omega, by show xWeak [(1, .int .i64 id), (2, .ptr b2 0), (4, .ptr b4 0), (5, .slc 10 (wr l id (i + 1)) tk1), (6, .int .i64 (i + 1 : Nat))] _; rw [e1 he]; repeat (first | exact trivial | refine ⟨by first | trivial | exact Weak.refl _ | exact Weak.tok _ _ _ | exact Weak.of_eq (congrArg (AV.int _) (by omega)) | exact Weak.of_eq (congrArg AV.bool (by fail)) | exact Weak.nils _ _ (.inr rfl), ?_⟩), .refl _, hlt, by assumption⟩
  · have hge : i = l.length := by omega
    subst hge
    refine Xc_h ?_; (conv => whnf); refine Hid.seq ?_; refine Hid.seq ?_; refine Hid.reg ?_; (conv => whnf); refine SLoad.on 1 rfl ?_; (conv => whnf); refine Hid.cond rfl ?_; refine SIf.n Ty.mixed (decide_eq_false (by rw [hml]; omega)) ?_; refine Xc_h ?_; (conv => whnf); refine Hid.exit ?_; (conv => whnf); refine Hid.seq ?_; refine Hid.reg ?_; (conv => whnf); refine SStore.on 1 rfl ?_
    (conv => whnf); refine Hid.seq ?_; refine Hid.reg ?_; (conv => whnf); refine SLoad.on 1 rfl ?_; (conv => whnf); refine SStore.on 0 rfl ?_; (conv => whnf); refine Hid.ret ?_; (conv => whnf); refine SLoad.on 0 rfl ?_; (conv => whnf); refine .v (le_setBox (le_setBox (hle0.trans hm.le) hb2) h4) ?_
    rw [eStt, eSubs, wr_all]
    exact .agg (.cons (.refl _) (.cons (.refl _) (.cons (.refl _) (.cons (.tok _ _ _) .nil)))) (by simp [AV.one])
def laidR (x : Sub) (l : List Sub) : Nat → List Sub × Bool
  | 0 => ([], false)
  | i + 1 => match laidR x l i, l[i]? with
    | (r, b), some y => if b = false ∧ x.id < y.id then (r ++ [x, y], true) else (r ++ [y], b)
    | p, none => p
def laidA (x : Sub) (l : List Sub) (i : Nat) : List AV := (laidR x l i).1.map eSub
theorem laidR_ref (x : Sub) (l : List Sub) : ∀ i, i ≤ l.length → (laidR x l i).1 ++ refPut x (l.drop i) (laidR x l i).2 = refPut x l false
  | 0, _ => rfl
  | i + 1, h => by
    have ih := laidR_ref x l i (by omega)
    have hlt : i < l.length := by omega
    rw [List.drop_eq_getElem_cons hlt, refPut] at ih
    rw [← ih, laidR, List.getElem?_eq_getElem hlt]
    generalize laidR x l i = p at *
    obtain ⟨r, b⟩ := p
    dsimp only
    by_cases hc : b = false ∧ x.id < (l[i]).id
    · rw [if_pos hc, if_pos hc]; simp
    · rw [if_neg hc, if_neg hc]; simp
theorem laidR_len (x : Sub) (l : List Sub) : ∀ i, (laidR x l i).1.length ≤ i + 1 ∧ ((laidR x l i).2 = false → (laidR x l i).1.length ≤ i)
  | 0 => ⟨by simp [laidR], fun _ => by simp [laidR]⟩
  | i + 1 => by
    obtain ⟨h1, h2⟩ := laidR_len x l i
    rw [laidR]
    split
    · rename_i r b y e1 e2
      rw [e1] at h1 h2
      dsimp only at h1 h2
      split
      · rename_i hc
        have := h2 hc.1
        exact ⟨by simp; omega, fun h => by cases h⟩
      · exact ⟨by simp; omega, fun h => by have := h2 h; simp; omega⟩
    · exact ⟨by omega, fun h => by have := h2 h; omega⟩
theorem refPut_any (w0 : Base) (s : Stt) (x : Sub) (hf : Fine s.subs) (hxa : x.acks.length ≤ 1000000000) (hxq : x.queue.length ≤ 1000000000) : CallP Tryz.prog w0 25 [eStt s, eSub x] (eStt { s with subs := putS s.subs x }) := by
  refine CallP.h Ty.tok Ty.mixed Tryz.func25 rfl Tryz.ntmps25 rfl (by simp) (by decide +kernel) fun σ => ?_
  have hwo := refWithout_any w0 s x.id hf
  have hput := putS_ref s.subs x
  have hwf := hf.wo x.id
  obtain ⟨clock, next, last, l⟩ := s
  dsimp only at hf hwo hput hwf ⊢
  rw [hput]
  generalize wo l x.id = wl at *
  have hn := hwf.n
  (conv => whnf); refine Hid.seq ?_; refine Hid.reg ?_; (conv => whnf); refine SBox.b rfl ?_; (conv => whnf); intro b2 hb2; refine SBox.f ?_; (conv => whnf); intro b4 hb4; (conv => whnf); refine Hid.seq ?_; refine Hid.reg ?_; (conv => whnf); refine SLoad.on 1 rfl ?_; (conv => whnf); refine SCall.p (by exact hwo) ?_; (conv => whnf); intro b5 hb5; (conv => whnf); refine SStore.on 0 rfl ?_
  (conv => whnf); refine Hid.seq ?_; refine Hid.reg ?_; (conv => whnf); refine Hid.seq ?_; refine Hid.reg ?_; (conv => whnf); refine Hid.seq ?_; refine Hid.seq ?_; refine Hid.reg ?_; (conv => whnf); refine Hid.block ?_; refine Hid.loop ?_
  have h4 := le_none (le_new (.refl _) hb2) hb4
  have h5 := le_none (le_new (le_new (.refl _) hb2) hb4) hb5
  have hle0 : St.Le σ (((σ.setBox b2 [.int .i64 clock, .int .i64 next, .int .i64 last, eSubs l]).setBox b4 [.int .i64 0, .int .i64 0, .int .i64 0, .nils]).setBox b5 [.int .i64 clock, .int .i64 next, .int .i64 last, eSubs wl]) := le_setBox (le_setBox (le_setBox (.refl _) hb2) h4) h5
  rw [setBox_setBox]
  refine SLoop.by Ty.mixed (fun ((i, tk) : Nat × Tok) => wl.length - i) (fun (i, tk) => [(2, .ptr b2 0), (3, .vp (eSub x)), (4, .ptr b4 0), (5, .ptr b5 0), (6, .slc 10 (laidA x wl i) tk), (7, .bool (laidR x wl i).2), (8, .int .i64 i)]) (fun _ => [(b5, [.int .i64 clock, .int .i64 next, .int .i64 last, eSubs wl]), (b4, [.int .i64 0, .int .i64 0, .int .i64 0, .nils]), (b2, [.int .i64 clock, .int .i64 next, .int .i64 last, eSubs l])])
    (fun (i, tk) τ => i ≤ wl.length ∧ Moves (((σ.setBox b2 [.int .i64 clock, .int .i64 next, .int .i64 last, eSubs l]).setBox b4 [.int .i64 0, .int .i64 0, .int .i64 0, .nils]).setBox b5 [.int .i64 clock, .int .i64 next, .int .i64 last, eSubs wl]) .full τ tk) (0, .full) ⟨by repeat (first | exact trivial | refine ⟨by first | trivial | exact Weak.refl _ | exact Weak.tok _ _ _ | exact Weak.of_eq (congrArg (AV.int _) (by omega)) | exact Weak.of_eq (congrArg AV.bool (by fail)) | exact Weak.nils _ _ (.inr rfl), ?_⟩), .refl _, Nat.zero_le _, .full _⟩ ?_
  rintro ⟨i, tk⟩ τ ⟨hi, hm⟩
  have hml : (wl.map eSub).length = wl.length := by simp
  have hll := laidR_len x wl i
  have hlA : (laidA x wl i).length ≤ 100000001 := by rw [laidA, List.length_map]; omega
  by_cases hlt : i < wl.length
  · have ga : (wl.map eSub)[i]? = some (eSub wl[i]) := by simp [hlt]
    have hst : laidR x wl (i + 1) = if (laidR x wl i).2 = false ∧ x.id < (wl[i]).id then ((laidR x wl i).1 ++ [x, wl[i]], true) else ((laidR x wl i).1 ++ [wl[i]], (laidR x wl i).2) := by
      rw [laidR, List.getElem?_eq_getElem hlt]
    generalize wl[i] = y at *
    by_cases hc : (laidR x wl i).2 = false ∧ x.id < y.id
    · rw [if_pos hc] at hst
      have hc1 := hc.1
      have hc2 : decide (x.id < y.id) = true := decide_eq_true hc.2
      have e1 : laidA x wl (i + 1) = laidA x wl i ++ [eSub x] ++ [eSub y] := by rw [laidA, hst]; simp [laidA]
      have e2 : (laidR x wl (i + 1)).2 = true := by rw [hst]
      have hnb : (!(laidR x wl i).2) = true := by rw [hc1]; rfl
      refine Xc_h ?_; (conv => whnf); refine Hid.seq ?_; refine Hid.seq ?_; refine Hid.reg ?_; (conv => whnf); refine SLoad.on 0 rfl ?_; (conv => whnf); refine Hid.cond rfl ?_; refine SIf.y Ty.mixed (decide_eq_true (by rw [hml]; omega)) ?_; refine Xc_h ?_; (conv => whnf); refine Hid.skip ?_; (conv => whnf); refine Hid.seq ?_; refine Hid.seq ?_; refine Hid.seq ?_; refine Hid.regD ?_
      refine SReg.t 1 [] (by decide +kernel) ?_; (conv => whnf); refine SCond.y (by assumption) ?_; (conv => whnf); refine SCond.y (by assumption) ?_; (conv => whnf); refine SLoad.on 0 rfl ?_; (conv => whnf); refine SCond.y (by assumption) ?_; (conv => whnf); refine SCond.y (by assumption) ?_; (conv => whnf)
      refine ⟨_, ⟨by first | omega | (rw [hml]; omega) | (simp only [hml]; omega) | fail, by exact ga⟩, ?_⟩
      (conv => whnf); refine SCond.y (by assumption) ?_; (conv => whnf); refine SCond.y (by assumption) ?_; (conv => whnf); refine SCond.y (by assumption) ?_; (conv => whnf); refine SCond.y (by assumption) ?_; (conv => whnf); refine SCond.y (by assumption) ?_; (conv => whnf); refine SPick.y (by assumption) ?_; (conv => whnf); refine Hid.cond rfl ?_; refine SIf.y Ty.mixed (by assumption) ?_
      refine Xc_h ?_; (conv => whnf); refine Hid.seq ?_; refine Hid.reg ?_; (conv => whnf)
      refine SApp.c rfl rfl (by assumption) (by simp only [List.length_append, List.length_cons, List.length_nil]; omega) fun tk1 σ1 hm => ?_
      (conv => whnf); refine Hid.reg ?_; (conv => whnf); refine Hid.reg ?_; (conv => whnf); refine SLoad.on 0 rfl ?_; (conv => whnf)
      refine ⟨_, ⟨by first | omega | (rw [hml]; omega) | (simp only [hml]; omega) | fail, by exact ga⟩, ?_⟩
      (conv => whnf)
      refine SApp.c rfl rfl (by assumption) (by simp only [List.length_append, List.length_cons, List.length_nil]; omega) fun tk1 σ1 hm => ?_
      (conv => whnf); refine Hid.reg ?_; (conv => whnf); refine ⟨_, IntWalk.i64_in _ (by omega), ?_⟩; (conv => whnf)
      exact ⟨(i + 1, tk1), by show wl.length - (i + 1) < wl.length - i; omega, by show xWeak [(2, .ptr b2 0), (3, .vp (eSub x)), (4, .ptr b4 0), (5, .ptr b5 0), (6, .slc 10 (laidA x wl (i + 1)) tk1), (7, .bool (laidR x wl (i + 1)).2), (8, .int .i64 (i + 1 : Nat))] _; rw [e1, e2]; repeat (first | exact trivial | refine ⟨by first | trivial | exact Weak.refl _ | exact Weak.tok _ _ _ | exact Weak.of_eq (congrArg (AV.int _) (by omega)) | exact Weak.of_eq (congrArg AV.bool (by fail)) | exact Weak.nils _ _ (.inr rfl), ?_⟩), .refl _, hlt, by assumption⟩
    · rw [if_neg hc] at hst
      have e1 : laidA x wl (i + 1) = laidA x wl i ++ [eSub y] := by rw [laidA, hst]; simp [laidA]
      have e2 : (laidR x wl (i + 1)).2 = (laidR x wl i).2 := by rw [hst]
      cases hb : (laidR x wl i).2 with
      | true =>
        have hnb : (!(laidR x wl i).2) = false := by rw [hb]; rfl
        refine Xc_h ?_; (conv => whnf); refine Hid.seq ?_; refine Hid.seq ?_; refine Hid.reg ?_; (conv => whnf); refine SLoad.on 0 rfl ?_; (conv => whnf); refine Hid.cond rfl ?_; refine SIf.y Ty.mixed (decide_eq_true (by rw [hml]; omega)) ?_; refine Xc_h ?_; (conv => whnf); refine Hid.skip ?_; (conv => whnf); refine Hid.seq ?_; refine Hid.seq ?_; refine Hid.seq ?_; refine Hid.regD ?_
        refine SReg.t 1 [] (by decide +kernel) ?_; (conv => whnf); refine SCond.n (by assumption) ?_; (conv => whnf); refine SCond.n (by assumption) ?_; (conv => whnf); refine SCond.n (by assumption) ?_; (conv => whnf); refine SCond.n (by assumption) ?_; (conv => whnf); refine SCond.n (by assumption) ?_; (conv => whnf); refine SCond.n (by assumption) ?_; (conv => whnf)
        refine SCond.n (by assumption) ?_; (conv => whnf); refine SCond.n (by assumption) ?_; (conv => whnf); refine SCond.n (by assumption) ?_; (conv => whnf); refine SPick.n (by assumption) ?_; (conv => whnf); refine Hid.cond rfl ?_; refine SIf.n Ty.mixed (by exact rfl) ?_; refine Xc_h ?_; (conv => whnf); refine Hid.skip ?_; (conv => whnf); refine Hid.reg ?_; (conv => whnf)
        refine SLoad.on 0 rfl ?_; (conv => whnf)
        refine ⟨_, ⟨by first | omega | (rw [hml]; omega) | (simp only [hml]; omega) | fail, by exact ga⟩, ?_⟩
        (conv => whnf)
        refine SApp.c rfl rfl (by assumption) (by simp only [List.length_append, List.length_cons, List.length_nil]; omega) fun tk1 σ1 hm => ?_
        (conv => whnf); refine Hid.reg ?_; (conv => whnf); refine ⟨_, IntWalk.i64_in _ (by omega), ?_⟩; (conv => whnf)
        exact ⟨(i + 1, tk1), by show wl.length - (i + 1) < wl.length - i; omega, by show xWeak [(2, .ptr b2 0), (3, .vp (eSub x)), (4, .ptr b4 0), (5, .ptr b5 0), (6, .slc 10 (laidA x wl (i + 1)) tk1), (7, .bool (laidR x wl (i + 1)).2), (8, .int .i64 (i + 1 : Nat))] _; rw [e1, e2]; repeat (first | exact trivial | refine ⟨by first | trivial | exact Weak.refl _ | exact Weak.tok _ _ _ | exact Weak.of_eq (congrArg (AV.int _) (by omega)) | exact Weak.of_eq (congrArg AV.bool (by fail)) | exact Weak.nils _ _ (.inr rfl), ?_⟩), .refl _, hlt, by assumption⟩
      | false =>
        have hnb : (!(laidR x wl i).2) = true := by rw [hb]; rfl
        have hc2 : decide (x.id < y.id) = false := decide_eq_false fun h => hc ⟨hb, h⟩
        refine Xc_h ?_; (conv => whnf); refine Hid.seq ?_; refine Hid.seq ?_; refine Hid.reg ?_; (conv => whnf); refine SLoad.on 0 rfl ?_; (conv => whnf); refine Hid.cond rfl ?_; refine SIf.y Ty.mixed (decide_eq_true (by rw [hml]; omega)) ?_; refine Xc_h ?_; (conv => whnf); refine Hid.skip ?_; (conv => whnf); refine Hid.seq ?_; refine Hid.seq ?_; refine Hid.seq ?_; refine Hid.regD ?_
        refine SReg.t 1 [] (by decide +kernel) ?_; (conv => whnf); refine SCond.y (by assumption) ?_; (conv => whnf); refine SCond.y (by assumption) ?_; (conv => whnf); refine SLoad.on 0 rfl ?_; (conv => whnf); refine SCond.y (by assumption) ?_; (conv => whnf); refine SCond.y (by assumption) ?_; (conv => whnf)
        refine ⟨_, ⟨by first | omega | (rw [hml]; omega) | (simp only [hml]; omega) | fail, by exact ga⟩, ?_⟩
        (conv => whnf); refine SCond.y (by assumption) ?_; (conv => whnf); refine SCond.y (by assumption) ?_; (conv => whnf); refine SCond.y (by assumption) ?_; (conv => whnf); refine SCond.y (by assumption) ?_; (conv => whnf); refine SCond.y (by assumption) ?_; (conv => whnf); refine SPick.y (by assumption) ?_; (conv => whnf); refine Hid.cond rfl ?_; refine SIf.n Ty.mixed (by assumption) ?_
        refine Xc_h ?_; (conv => whnf); refine Hid.skip ?_; (conv => whnf); refine Hid.reg ?_; (conv => whnf); refine SLoad.on 0 rfl ?_; (conv => whnf)
        refine ⟨_, ⟨by first | omega | (rw [hml]; omega) | (simp only [hml]; omega) | fail, by exact ga⟩, ?_⟩
        (conv => whnf)
        refine SApp.c rfl rfl (by assumption) (by simp only [List.length_append, List.length_cons, List.length_nil]; omega) fun tk1 σ1 hm => ?_
        (conv => whnf); refine Hid.reg ?_; (conv => whnf); refine ⟨_, IntWalk.i64_in _ (by omega), ?_⟩; (conv => whnf)
        exact ⟨(i + 1, tk1), by show wl.length - (i + 1) < wl.length - i; omega, by show xWeak [(2, .ptr b2 0), (3, .vp (eSub x)), (4, .ptr b4 0), (5, .ptr b5 0), (6, .slc 10 (laidA x wl (i + 1)) tk1), (7, .bool (laidR x wl (i + 1)).2), (8, .int .i64 (i + 1 : Nat))] _; rw [e1, e2]; repeat (first | exact trivial | refine ⟨by first | trivial | exact Weak.refl _ | exact Weak.tok _ _ _ | exact Weak.of_eq (congrArg (AV.int _) (by omega)) | exact Weak.of_eq (congrArg AV.bool (by fail)) | exact Weak.nils _ _ (.inr rfl), ?_⟩), .refl _, hlt, by assumption⟩
  · have hge : i = wl.length := by omega
    subst hge
    have hfin := laidR_ref x wl wl.length (Nat.le_refl _)
    rw [List.drop_length, refPut] at hfin
    cases hb : (laidR x wl wl.length).2 with
    | true =>
      have hnb : (!(laidR x wl wl.length).2) = false := by rw [hb]; rfl
      rw [hb, if_pos rfl, List.append_nil] at hfin
      refine Xc_h ?_; (conv => whnf); refine Hid.seq ?_; refine Hid.seq ?_; refine Hid.reg ?_; (conv => whnf); refine SLoad.on 0 rfl ?_; (conv => whnf); refine Hid.cond rfl ?_; refine SIf.n Ty.mixed (decide_eq_false (by rw [hml]; omega)) ?_; refine Xc_h ?_; (conv => whnf); refine Hid.exit ?_; (conv => whnf); refine Hid.seq ?_; refine Hid.seq ?_; refine Hid.reg ?_; (conv => whnf)
      refine Hid.cond rfl ?_; refine SIf.n Ty.mixed (by assumption) ?_; refine Xc_h ?_; (conv => whnf); refine Hid.skip ?_; (conv => whnf); refine Hid.seq ?_; refine Hid.reg ?_; (conv => whnf); refine SStore.on 2 rfl ?_; (conv => whnf); refine Hid.seq ?_; refine Hid.reg ?_; (conv => whnf); refine SLoad.on 2 rfl ?_; (conv => whnf); refine SStore.on 1 rfl ?_; (conv => whnf); refine Hid.ret ?_
      (conv => whnf); refine SLoad.on 1 rfl ?_; (conv => whnf); refine .v (le_setBox (le_setBox (hle0.trans (Moves.le (by assumption))) hb2) h4) ?_
      rw [eStt, eSubs]
      dsimp only
      rw [← hfin]
      exact .agg (.cons (.refl _) (.cons (.refl _) (.cons (.refl _) (.cons (.tok _ _ _) .nil)))) (by simp [AV.one])
    | false =>
      have hnb : (!(laidR x wl wl.length).2) = true := by rw [hb]; rfl
      rw [hb, if_neg (by simp)] at hfin
      refine Xc_h ?_; (conv => whnf); refine Hid.seq ?_; refine Hid.seq ?_; refine Hid.reg ?_; (conv => whnf); refine SLoad.on 0 rfl ?_; (conv => whnf); refine Hid.cond rfl ?_; refine SIf.n Ty.mixed (decide_eq_false (by rw [hml]; omega)) ?_; refine Xc_h ?_; (conv => whnf); refine Hid.exit ?_; (conv => whnf); refine Hid.seq ?_; refine Hid.seq ?_; refine Hid.reg ?_; (conv => whnf)
      refine Hid.cond rfl ?_; refine SIf.y Ty.mixed (by assumption) ?_; refine Xc_h ?_; (conv => whnf); refine Hid.reg ?_; (conv => whnf)
      refine SApp.c rfl rfl (by assumption) (by simp only [List.length_append, List.length_cons, List.length_nil]; omega) fun tk1 σ1 hm => ?_
      (conv => whnf); refine Hid.seq ?_; refine Hid.reg ?_; (conv => whnf); refine SStore.on 2 rfl ?_; (conv => whnf); refine Hid.seq ?_; refine Hid.reg ?_; (conv => whnf); refine SLoad.on 2 rfl ?_; (conv => whnf); refine SStore.on 1 rfl ?_; (conv => whnf); refine Hid.ret ?_; (conv => whnf); refine SLoad.on 1 rfl ?_; (conv => whnf)
      refine .v (le_setBox (le_setBox (hle0.trans (Moves.le (by assumption))) hb2) h4) ?_
      rw [eStt, eSubs]
      dsimp only
      rw [← hfin, List.map_append]
      exact .agg (.cons (.refl _) (.cons (.refl _) (.cons (.refl _) (.cons (.tok _ _ _) .nil)))) (by simp [AV.one])
end Go.Proofs.YtgliemhhnkhboaaGreatDoor
end
section
set_option linter.unusedVariables false
set_option linter.unusedSimpArgs false
set_option maxRecDepth 100000
set_option maxHeartbeats 2000000
namespace Go.Proofs.YtgliemhhnkhboaaGreatDoor
open Go.Al Go.RowKit
def sameT (s t : Stt) : Bool := decide (s.clock = t.clock) && (decide (s.next = t.next) && (decide (s.last = t.last) && decide (s.subs = t.subs)))
theorem refSame_any (w0 : Base) (s t : Stt) (hf : Fine s.subs) : CallP Tryz.prog w0 16 [eStt s, eStt t] (.bool (sameT s t)) := by
  refine CallP.h Ty.tok Ty.mixed Tryz.func16 rfl Tryz.ntmps16 rfl (by simp) (by decide +kernel) fun σ => ?_
  obtain ⟨c1, n1, l1, a⟩ := s
  obtain ⟨c2, n2, l2, b⟩ := t
  dsimp only at hf
  have ha := hf.n
  by_cases hd : c1 = c2 ∧ n1 = n2 ∧ l1 = l2 ∧ a.length = b.length
  · obtain ⟨rfl, rfl, rfl, hlen⟩ := hd
    have d1 : (!decide (c1 = c1)) = false := by simp
    have d2 : (!decide (n1 = n1)) = false := by simp
    have d3 : (!decide (l1 = l1)) = false := by simp
    have d4 : (!decide (((a.map eSub).length : Int) = ((b.map eSub).length : Int))) = false := by simp [hlen]
    (conv => whnf); refine Hid.seq ?_; refine Hid.reg ?_; (conv => whnf); refine SBox.f ?_; (conv => whnf); refine SBox.f ?_; (conv => whnf); refine Hid.seq ?_; refine Hid.seq ?_; refine Hid.reg ?_; (conv => whnf); refine SCond.n (by assumption) ?_; (conv => whnf); refine SCond.n (by assumption) ?_; (conv => whnf); refine SCond.n (by assumption) ?_; (conv => whnf); refine SCond.n (by assumption) ?_
    (conv => whnf); refine SCond.n (by assumption) ?_; (conv => whnf); refine SPick.n (by assumption) ?_; (conv => whnf); refine SCond.n (by assumption) ?_; (conv => whnf); refine SCond.n (by assumption) ?_; (conv => whnf); refine SCond.n (by assumption) ?_; (conv => whnf); refine SCond.n (by assumption) ?_; (conv => whnf); refine SCond.n (by assumption) ?_; (conv => whnf)
    refine SPick.n (by assumption) ?_; (conv => whnf); refine SCond.n (by assumption) ?_; (conv => whnf); refine SCond.n (by assumption) ?_; (conv => whnf); refine SCond.n (by assumption) ?_; (conv => whnf); refine SCond.n (by assumption) ?_; (conv => whnf); refine SCond.n (by assumption) ?_; (conv => whnf); refine SCond.n (by assumption) ?_; (conv => whnf); refine SCond.n (by assumption) ?_
    (conv => whnf); refine SPick.n (by assumption) ?_; (conv => whnf); refine Hid.cond rfl ?_; refine SIf.n Ty.mixed (by assumption) ?_; refine Xc_h ?_; (conv => whnf); refine Hid.skip ?_; (conv => whnf); refine Hid.seq ?_; refine Hid.seq ?_; refine Hid.reg ?_; (conv => whnf); refine Hid.block ?_; refine Hid.loop ?_
    refine SLoop.by Ty.mixed (fun i : Nat => a.length - i) (fun i => [(2, .vp (eStt ⟨c1, n1, l1, a⟩)), (3, .vp (eStt ⟨c1, n1, l1, b⟩)), (5, .int .i64 i)]) (fun _ => []) (fun i τ => i ≤ a.length ∧ a.take i = b.take i ∧ τ = σ) 0 ⟨by repeat (first | exact trivial | refine ⟨by first | trivial | exact Weak.refl _ | exact Weak.tok _ _ _ | exact Weak.of_eq (congrArg (AV.int _) (by omega)) | exact Weak.of_eq (congrArg AV.bool (by fail)) | exact Weak.nils _ _ (.inr rfl), ?_⟩), .none _, Nat.zero_le _, by simp, rfl⟩ ?_
    rintro i τ ⟨hi, htk, rfl⟩
    have hml : (a.map eSub).length = a.length := by simp
    have hml2 : (b.map eSub).length = b.length := by simp
    by_cases hlt : i < a.length
    · have ga : (a.map eSub)[i]? = some (eSub a[i]) := by simp [hlt]
      have gb : (b.map eSub)[i]? = some (eSub (b[i]'(by omega))) := by simp [List.getElem?_eq_getElem (show i < b.length by omega)]
      have ht := take_succ_iff hlt (show i < b.length by omega) htk
      have hab : a = b → a[i] = b[i]'(by omega) := fun e => by subst e; rfl
      have hxa := hf.a _ (List.getElem_mem hlt)
      have hxq := hf.q _ (List.getElem_mem hlt)
      generalize a[i] = x at *
      generalize b[i]'(by omega) = y at *
      refine Xc_h ?_; (conv => whnf); refine Hid.seq ?_; refine Hid.seq ?_; refine Hid.reg ?_; (conv => whnf); refine Hid.cond rfl ?_
      skip
      refine SIf.y Ty.mixed (decide_eq_true (by rw [hml]; omega)) ?_; refine Xc_h ?_; (conv => whnf); refine Hid.skip ?_; (conv => whnf); refine Hid.seq ?_; refine Hid.seq ?_; refine Hid.regD ?_; refine SReg.t 1 [] (by decide +kernel) ?_; (conv => whnf)
      refine ⟨_, ⟨by first | omega | (rw [hml]; omega) | (rw [hml2]; omega) | (simp only [hml]; omega) | (simp only [hml2]; omega) | fail, by first | exact ga | exact gb | fail⟩, ?_⟩
      (conv => whnf)
      refine ⟨_, ⟨by first | omega | (rw [hml]; omega) | (rw [hml2]; omega) | (simp only [hml]; omega) | (simp only [hml2]; omega) | fail, by first | exact ga | exact gb | fail⟩, ?_⟩
      (conv => whnf); refine SCall.p (by exact sameSub_any w0 x y hxq hxa) ?_; (conv => whnf); refine Hid.cond rfl ?_
      by_cases hxy : x = y
      · refine SIf.n Ty.mixed (by simp [hxy]) ?_
        refine Xc_h ?_; (conv => whnf); refine Hid.skip ?_; (conv => whnf); refine Hid.reg ?_; (conv => whnf); refine ⟨_, IntWalk.i64_in _ (by omega), ?_⟩; (conv => whnf)
        exact ⟨i + 1, by omega, by repeat (first | exact trivial | refine ⟨by first | trivial | exact Weak.refl _ | exact Weak.tok _ _ _ | exact Weak.of_eq (congrArg (AV.int _) (by omega)) | exact Weak.of_eq (congrArg AV.bool (by fail)) | exact Weak.nils _ _ (.inr rfl), ?_⟩), .none _, hlt, ht.2 hxy, rfl⟩
      · refine SIf.y Ty.mixed (by simp [hxy]) ?_
        refine Xc_h ?_; (conv => whnf); refine Hid.seq ?_; refine Hid.reg ?_; (conv => whnf); refine Hid.ret ?_; (conv => whnf)
        skip
        have : ¬ a = b := fun e => hxy (hab e)
        exact .p (.refl _) (by simp [sameT, this])
    · have hge : i = a.length := by omega
      have : a = b := by rw [hge, List.take_length, hlen, List.take_length] at htk; exact htk
      refine Xc_h ?_; (conv => whnf); refine Hid.seq ?_; refine Hid.seq ?_; refine Hid.reg ?_; (conv => whnf); refine Hid.cond rfl ?_
      skip
      refine SIf.n Ty.mixed (decide_eq_false (by rw [hml]; omega)) ?_; refine Xc_h ?_; (conv => whnf); refine Hid.exit ?_; (conv => whnf); refine Hid.seq ?_; refine Hid.reg ?_; (conv => whnf); refine Hid.ret ?_; (conv => whnf)
      skip
      exact .p (.refl _) (by simp [sameT, this])
  · have hs : sameT ⟨c1, n1, l1, a⟩ ⟨c2, n2, l2, b⟩ = false := by
      cases h : sameT ⟨c1, n1, l1, a⟩ ⟨c2, n2, l2, b⟩ with
      | false => rfl
      | true =>
        simp only [sameT, Bool.and_eq_true, decide_eq_true_eq] at h
        exact absurd ⟨h.1, h.2.1, h.2.2.1, by rw [h.2.2.2]⟩ hd
    rw [hs]
    by_cases h1 : c1 = c2
    · have d1 : (!decide (c1 = c2)) = false := by simp [h1]
      by_cases h2 : n1 = n2
      · have d2 : (!decide (n1 = n2)) = false := by simp [h2]
        by_cases h3 : l1 = l2
        · have d3 : (!decide (l1 = l2)) = false := by simp [h3]
          have d4 : (!decide (((a.map eSub).length : Int) = ((b.map eSub).length : Int))) = true := by
            have : ¬ a.length = b.length := fun e => hd ⟨h1, h2, h3, e⟩
            simp; omega
          (conv => whnf); refine Hid.seq ?_; refine Hid.reg ?_; (conv => whnf); refine SBox.f ?_; (conv => whnf); refine SBox.f ?_; (conv => whnf); refine Hid.seq ?_; refine Hid.seq ?_; refine Hid.reg ?_; (conv => whnf); refine SCond.n (by assumption) ?_; (conv => whnf); refine SCond.n (by assumption) ?_; (conv => whnf); refine SCond.n (by assumption) ?_; (conv => whnf)
          refine SCond.n (by assumption) ?_; (conv => whnf); refine SCond.n (by assumption) ?_; (conv => whnf); refine SPick.n (by assumption) ?_; (conv => whnf); refine SCond.n (by assumption) ?_; (conv => whnf); refine SCond.n (by assumption) ?_; (conv => whnf); refine SCond.n (by assumption) ?_; (conv => whnf); refine SCond.n (by assumption) ?_; (conv => whnf); refine SCond.n (by assumption) ?_
          (conv => whnf); refine SPick.n (by assumption) ?_; (conv => whnf); refine SCond.n (by assumption) ?_; (conv => whnf); refine SCond.n (by assumption) ?_; (conv => whnf); refine SCond.n (by assumption) ?_; (conv => whnf); refine SCond.n (by assumption) ?_; (conv => whnf); refine SCond.n (by assumption) ?_; (conv => whnf); refine SCond.n (by assumption) ?_; (conv => whnf)
          refine SCond.n (by assumption) ?_; (conv => whnf); refine SPick.n (by assumption) ?_; (conv => whnf); refine Hid.cond rfl ?_; refine SIf.y Ty.mixed (by assumption) ?_; refine Xc_h ?_; (conv => whnf); refine Hid.seq ?_; refine Hid.reg ?_; (conv => whnf); refine Hid.ret ?_; (conv => whnf); exact .p (.refl _) rfl
        · have d3 : (!decide (l1 = l2)) = true := by simp [h3]
          (conv => whnf); refine Hid.seq ?_; refine Hid.reg ?_; (conv => whnf); refine SBox.f ?_; (conv => whnf); refine SBox.f ?_; (conv => whnf); refine Hid.seq ?_; refine Hid.seq ?_; refine Hid.reg ?_; (conv => whnf); refine SCond.n (by assumption) ?_; (conv => whnf); refine SCond.n (by assumption) ?_; (conv => whnf); refine SCond.n (by assumption) ?_; (conv => whnf)
          refine SCond.n (by assumption) ?_; (conv => whnf); refine SCond.n (by assumption) ?_; (conv => whnf); refine SPick.n (by assumption) ?_; (conv => whnf); refine SCond.n (by assumption) ?_; (conv => whnf); refine SCond.n (by assumption) ?_; (conv => whnf); refine SCond.n (by assumption) ?_; (conv => whnf); refine SCond.n (by assumption) ?_; (conv => whnf); refine SCond.n (by assumption) ?_
          (conv => whnf); refine SPick.n (by assumption) ?_; (conv => whnf); refine SCond.y (by assumption) ?_; (conv => whnf); refine SCond.y (by assumption) ?_; (conv => whnf); refine SCond.y (by assumption) ?_; (conv => whnf); refine SCond.y (by assumption) ?_; (conv => whnf); refine SCond.y (by assumption) ?_; (conv => whnf); refine SCond.y (by assumption) ?_; (conv => whnf)
          refine SCond.y (by assumption) ?_; (conv => whnf); refine SPick.y (by assumption) ?_; (conv => whnf); refine Hid.cond rfl ?_; refine SIf.y Ty.mixed (by exact rfl) ?_; refine Xc_h ?_; (conv => whnf); refine Hid.seq ?_; refine Hid.reg ?_; (conv => whnf); refine Hid.ret ?_; (conv => whnf); exact .p (.refl _) rfl
      · have d2 : (!decide (n1 = n2)) = true := by simp [h2]
        (conv => whnf); refine Hid.seq ?_; refine Hid.reg ?_; (conv => whnf); refine SBox.f ?_; (conv => whnf); refine SBox.f ?_; (conv => whnf); refine Hid.seq ?_; refine Hid.seq ?_; refine Hid.reg ?_; (conv => whnf); refine SCond.n (by assumption) ?_; (conv => whnf); refine SCond.n (by assumption) ?_; (conv => whnf); refine SCond.n (by assumption) ?_; (conv => whnf)
        refine SCond.n (by assumption) ?_; (conv => whnf); refine SCond.n (by assumption) ?_; (conv => whnf); refine SPick.n (by assumption) ?_; (conv => whnf); refine SCond.y (by assumption) ?_; (conv => whnf); refine SCond.y (by assumption) ?_; (conv => whnf); refine SCond.y (by assumption) ?_; (conv => whnf); refine SCond.y (by assumption) ?_; (conv => whnf); refine SCond.y (by assumption) ?_
        (conv => whnf); refine SPick.y (by assumption) ?_; (conv => whnf); refine SCond.y (by exact rfl) ?_; (conv => whnf); refine SCond.y (by exact rfl) ?_; (conv => whnf); refine SCond.y (by exact rfl) ?_; (conv => whnf); refine SCond.y (by exact rfl) ?_; (conv => whnf); refine SCond.y (by exact rfl) ?_; (conv => whnf); refine SCond.y (by exact rfl) ?_; (conv => whnf)
        refine SCond.y (by exact rfl) ?_; (conv => whnf); refine SPick.y (by exact rfl) ?_; (conv => whnf); refine Hid.cond rfl ?_; refine SIf.y Ty.mixed (by exact rfl) ?_; refine Xc_h ?_; (conv => whnf); refine Hid.seq ?_; refine Hid.reg ?_; (conv => whnf); refine Hid.ret ?_; (conv => whnf); exact .p (.refl _) rfl
    · have d1 : (!decide (c1 = c2)) = true := by simp [h1]
      (conv => whnf); refine Hid.seq ?_; refine Hid.reg ?_; (conv => whnf); refine SBox.f ?_; (conv => whnf); refine SBox.f ?_; (conv => whnf); refine Hid.seq ?_; refine Hid.seq ?_; refine Hid.reg ?_; (conv => whnf); refine SCond.y (by assumption) ?_; (conv => whnf); refine SCond.y (by assumption) ?_; (conv => whnf); refine SCond.y (by assumption) ?_; (conv => whnf)
      refine SCond.y (by assumption) ?_; (conv => whnf); refine SCond.y (by assumption) ?_; (conv => whnf); refine SPick.y (by assumption) ?_; (conv => whnf); refine SCond.y (by exact rfl) ?_; (conv => whnf); refine SCond.y (by exact rfl) ?_; (conv => whnf); refine SCond.y (by exact rfl) ?_; (conv => whnf); refine SCond.y (by exact rfl) ?_; (conv => whnf); refine SCond.y (by exact rfl) ?_
      (conv => whnf); refine SPick.y (by exact rfl) ?_; (conv => whnf); refine SCond.y (by exact rfl) ?_; (conv => whnf); refine SCond.y (by exact rfl) ?_; (conv => whnf); refine SCond.y (by exact rfl) ?_; (conv => whnf); refine SCond.y (by exact rfl) ?_; (conv => whnf); refine SCond.y (by exact rfl) ?_; (conv => whnf); refine SCond.y (by exact rfl) ?_; (conv => whnf)
      refine SCond.y (by exact rfl) ?_; (conv => whnf); refine SPick.y (by exact rfl) ?_; (conv => whnf); refine Hid.cond rfl ?_; refine SIf.y Ty.mixed (by exact rfl) ?_; refine Xc_h ?_; (conv => whnf); refine Hid.seq ?_; refine Hid.reg ?_; (conv => whnf); refine Hid.ret ?_; (conv => whnf); exact .p (.refl _) rfl
end Go.Proofs.YtgliemhhnkhboaaGreatDoor
end
section
set_option linter.unusedVariables false
set_option linter.unusedSimpArgs false
set_option maxRecDepth 100000
set_option maxHeartbeats 2000000
namespace Go.Proofs.YtgliemhhnkhboaaGreatDoor
open Go.Al Go.RowKit
def zT : List AV := [.int .i64 0, .int .i64 0, .int .i64 0, .nils]
theorem cut_bytes (c : List UInt8) (a b : Nat) : ((aBytes c).take b).drop a = aBytes ((c.take b).drop a) := by simp [aBytes, List.map_take, List.map_drop]
theorem state_any (w0 : Base) (c : List UInt8) (t : Tok) (hc0 : c.length ≤ 9223372036854775807) (σ : St) : CallW Tryz.prog w0 9 [.slc 1 (aBytes c) t] σ (fun r s => ∃ (ck nx ls : Nat) (st : Stt), r = eStt st ∧ GrownS ck nx ls st ∧ s = σ) := by
  have g0 := gL_lt c 0
  have g1 := gL_lt c 1
  have g2 := gL_lt c 2
  have hla := length_aBytes c
  refine CallW.h (B := []) Ty.tok Ty.mixed Tryz.func9 rfl Tryz.ntmps9 rfl (by simp) (by decide +kernel) (.nil σ) ?_; (conv => whnf); refine Hid.seq ?_; refine Hid.reg ?_; (conv => whnf); intro b2 hb2; (conv => whnf); refine Hid.seq ?_; refine Hid.reg ?_; (conv => whnf); refine SCall.p (by exact g_any w0 c t 0) ?_; (conv => whnf)
  refine ⟨_, IntWalk.i64_in _ (by omega), ?_⟩; (conv => whnf); refine SCall.p (by exact g_any w0 c t 1) ?_; (conv => whnf); refine And.intro (by omega) ?_; (conv => whnf); refine ⟨_, IntWalk.i64_in _ (by omega), ?_⟩; (conv => whnf); refine SCall.p (by exact g_any w0 c t 2) ?_; (conv => whnf); refine And.intro (by omega) ?_; (conv => whnf); intro b3 hb3; (conv => whnf); refine SStore.on 0 rfl ?_
  (conv => whnf); refine Hid.seq ?_; refine Hid.seq ?_; refine Hid.reg ?_; (conv => whnf); refine Hid.block ?_; refine Hid.loop ?_
  have h3 := le_none (le_new (.refl _) hb2) hb3
  have n23 : b3 ≠ b2 := by rintro rfl; rw [setBox_same] at hb3; cases hb3
  obtain ⟨ck, hck⟩ : ∃ n : Nat, n = gL c 0 * 7 := ⟨_, rfl⟩
  obtain ⟨nx, hnx⟩ : ∃ n : Nat, n = 1 + gL c 1 / 4 := ⟨_, rfl⟩
  obtain ⟨ls, hls⟩ : ∃ n : Nat, n = gL c 2 % 8 := ⟨_, rfl⟩
  rw [show ((gL c 0 : Int) * 7) = (ck : Int) by omega, show (1 + (gL c 1 : Int) / 4) = (nx : Int) by omega, show ((gL c 2 : Int) % 8) = (ls : Int) by omega]
  refine SLoop.weakBox (ds := [.int .i64 ck, .int .i64 nx, .int .i64 ls, eSubs []]) 0 rfl (.cons (.refl _) (.cons (.refl _) (.cons (.refl _) (.cons (.nils 10 .no (.inl rfl)) .nil)))) ?_
  refine SLoop.by Ty.mixed (fun ((i, l) : Nat × List Sub) => 6 - i) (fun (i, l) => [(0, .slc 1 (aBytes c) t), (2, .ptr b2 0), (3, .ptr b3 0), (4, .int .i64 i)]) (fun (i, l) => [(b3, [.int .i64 ck, .int .i64 nx, .int .i64 ls, eSubs l]), (b2, zT)]) (fun (i, l) τ => i ≤ 6 ∧ GrownS ck nx ls ⟨ck, nx, ls, l⟩ ∧ St.Le σ τ) (0, []) ⟨by repeat (first | exact trivial | refine ⟨by first | trivial | exact Weak.refl _ | exact Weak.tok _ _ _ | exact Weak.of_eq (congrArg (AV.int _) (by omega)) | exact Weak.of_eq (congrArg AV.bool (by fail)) | exact Weak.nils _ _ (.inr rfl), ?_⟩), .refl _, by omega, ⟨rfl, by omega, rfl, by omega, rfl, by omega, List.Pairwise.nil, by simp⟩, le_setBox (le_setBox (le_setBox (le_setBox (.refl _) hb2) h3) h3) h3⟩ ?_
  clear hb3 hck hnx hls g0 g1 g2; rintro ⟨i, l⟩ τ ⟨hi, hg, hle⟩
  have hls7 := hg.lsle
  have hnx1 := hg.nxle
  have hck1 := hg.ckle
  by_cases hgo : i < 6 ∧ 0 < ls
  · obtain ⟨hi6, hl0⟩ := hgo
    have d1 : decide ((i : Int) < 6) = true := decide_eq_true (by omega)
    have d2 : decide (0 < (ls : Int)) = true := decide_eq_true (by omega)
    refine Xc_h ?_; (conv => whnf); refine Hid.seq ?_; refine Hid.seq ?_; refine Hid.reg ?_; (conv => whnf); refine SCond.y (by assumption) ?_; (conv => whnf); refine SCond.y (by assumption) ?_; (conv => whnf); refine SLoad.on 0 rfl ?_; (conv => whnf); refine SCond.y (by assumption) ?_; (conv => whnf); refine SPick.y (by assumption) ?_; (conv => whnf); refine Hid.cond rfl ?_
    refine SIf.y Ty.mixed (by assumption) ?_; refine Xc_h ?_; (conv => whnf); refine Hid.skip ?_; (conv => whnf); refine Hid.seq ?_; refine Hid.seq ?_; refine Hid.reg ?_; (conv => whnf); refine ⟨_, IntWalk.i64_in _ (by omega), ?_⟩; (conv => whnf); refine ⟨_, IntWalk.i64_in _ (by omega), ?_⟩; (conv => whnf); refine Hid.seq ?_; refine Hid.reg ?_; (conv => whnf)
    refine ⟨_, IntWalk.i64_in _ (by omega), ?_⟩; (conv => whnf); refine ⟨_, IntWalk.i64_in _ (by omega), ?_⟩; (conv => whnf); refine Hid.seq ?_; refine Hid.seq ?_; refine Hid.reg ?_; (conv => whnf); refine Hid.cond rfl ?_
    rw [show min ((aBytes c).length : Int) (3 + 24 * (i : Int)) = ((min c.length (3 + 24 * i) : Nat) : Int) by rw [hla]; omega, show min ((aBytes c).length : Int) (27 + 24 * (i : Int)) = ((min c.length (27 + 24 * i) : Nat) : Int) by rw [hla]; omega]
    by_cases hab : min c.length (3 + 24 * i) = min c.length (27 + 24 * i)
    · refine SIf.y Ty.mixed (decide_eq_true (by omega)) ?_
      refine Xc_h ?_; (conv => whnf); refine Hid.exit ?_; (conv => whnf); refine Hid.seq ?_; refine Hid.reg ?_; (conv => whnf); refine SLoad.on 0 rfl ?_; (conv => whnf); refine SStore.on 1 rfl ?_; (conv => whnf); refine Hid.ret ?_; (conv => whnf); refine SLoad.on 1 rfl ?_; (conv => whnf)
      exact ⟨fun _ => ⟨_, σ, .refl _, le_setBox hle hb2, ck, nx, ls, ⟨ck, nx, ls, l⟩, rfl, hg, rfl⟩⟩
    · refine SIf.n Ty.mixed (decide_eq_false (by omega)) ?_
      have ha : min c.length (3 + 24 * i) < c.length := by omega
      have hab2 : min c.length (3 + 24 * i) ≤ min c.length (27 + 24 * i) := by omega
      have hbl : min c.length (27 + 24 * i) ≤ c.length := by omega
      generalize min c.length (3 + 24 * i) = a at *
      generalize min c.length (27 + 24 * i) = b at *
      have ga : (aBytes c)[a]? = some (.int .u8 (c.getD a 0).toNat) := get_bytes (by simp [List.getD, ha])
      have hu := (c.getD a 0).toNat_lt
      generalize c.getD a 0 = q at *
      have hsub := fun σ => sub_any w0 ((c.take b).drop a) .no (1 + q.toNat % ls) ck nx (by rw [List.length_drop, List.length_take]; omega) (by have := Nat.mod_lt q.toNat hl0; omega) (by omega) (by omega) σ
      have hm1 := Int.emod_nonneg (q.toNat : Int) (show (ls : Int) ≠ 0 by omega)
      have hm2 := Int.emod_lt_of_pos (q.toNat : Int) (show (0 : Int) < (ls : Int) by omega)
      have hm3 : 1 + q.toNat % ls ≤ ls := by have := Nat.mod_lt q.toNat hl0; omega
      refine Xc_h ?_; (conv => whnf); refine Hid.skip ?_; (conv => whnf); refine Hid.seq ?_; refine Hid.regD ?_; refine SReg.t 1 [] (by decide +kernel) ?_; (conv => whnf)
      refine ⟨_, ⟨by first | omega | (rw [hla]; omega) | (simp only [hla]; omega) | fail, by exact ga⟩, ?_⟩
      (conv => whnf); refine ⟨_, IntWalk.i64_in _ (by omega), ?_⟩; (conv => whnf); refine SLoad.on 0 rfl ?_; (conv => whnf); refine And.intro (by omega) ?_; (conv => whnf); refine ⟨_, IntWalk.i64_in _ (by omega), ?_⟩; (conv => whnf); refine Hid.regD ?_; refine SReg.h 0 rfl [0, 1, 2, 3, 4, 5, 6, 7, 8, 9, 10, 11, 12] [3, 0, 0, 0, 0, 0, 0, 3, 0, 3, 4, 0, 2] (by decide +kernel) ?_; (conv => whnf)
      (conv => whnf); refine SLoadH.on 0 rfl rfl ?_; (conv => whnf); refine And.intro (by omega) ?_; (conv => whnf); refine ⟨_, cut_bytes c a b, ?_⟩; (conv => whnf); refine SLoadH.on 0 rfl rfl ?_; (conv => whnf); refine SLoadH.on 0 rfl rfl ?_; (conv => whnf); refine SCall.w4 (hsub _) rfl ?_; rintro r s ⟨x, rfl, hx, rfl⟩ hB
      refine ⟨⟨_, hB, ?_⟩, fun h => h⟩
      have hput := refPut_any w0 ⟨ck, nx, ls, l⟩ x hg.fine (by have := hx.nacks; omega) (by have := hx.nqueue; omega)
      have hg2 := hg.put hx (by omega) hm3
      (conv => whnf); refine SCall.p (by exact hput) ?_; (conv => whnf); refine SStore.on 0 rfl ?_; (conv => whnf); refine Hid.reg ?_; (conv => whnf); refine ⟨_, IntWalk.i64_in _ (by omega), ?_⟩; (conv => whnf)
      exact ⟨(i + 1, putS l x), by show 6 - (i + 1) < 6 - i; omega, by repeat (first | exact trivial | refine ⟨by first | trivial | exact Weak.refl _ | exact Weak.tok _ _ _ | exact Weak.of_eq (congrArg (AV.int _) (by omega)) | exact Weak.of_eq (congrArg AV.bool (by fail)) | exact Weak.nils _ _ (.inr rfl), ?_⟩), .refl _, hi6, hg2, le_setBox hle h3⟩
  · by_cases hi6 : i < 6
    · have d1 : decide ((i : Int) < 6) = true := decide_eq_true (by omega)
      have d2 : decide (0 < (ls : Int)) = false := decide_eq_false (by omega)
      refine Xc_h ?_; (conv => whnf); refine Hid.seq ?_; refine Hid.seq ?_; refine Hid.reg ?_; (conv => whnf); refine SCond.y (by assumption) ?_; (conv => whnf); refine SCond.y (by assumption) ?_; (conv => whnf); refine SLoad.on 0 rfl ?_; (conv => whnf); refine SCond.y (by assumption) ?_; (conv => whnf); refine SPick.y (by assumption) ?_; (conv => whnf); refine Hid.cond rfl ?_
      refine SIf.n Ty.mixed (by assumption) ?_; refine Xc_h ?_; (conv => whnf); refine Hid.exit ?_; (conv => whnf); refine Hid.seq ?_; refine Hid.reg ?_; (conv => whnf); refine SLoad.on 0 rfl ?_; (conv => whnf); refine SStore.on 1 rfl ?_; (conv => whnf); refine Hid.ret ?_; (conv => whnf); refine SLoad.on 1 rfl ?_; (conv => whnf)
      exact ⟨fun _ => ⟨_, σ, .refl _, le_setBox hle hb2, ck, nx, ls, ⟨ck, nx, ls, l⟩, rfl, hg, rfl⟩⟩
    · have d1 : decide ((i : Int) < 6) = false := decide_eq_false (by omega)
      refine Xc_h ?_; (conv => whnf); refine Hid.seq ?_; refine Hid.seq ?_; refine Hid.reg ?_; (conv => whnf); refine SCond.n (by assumption) ?_; (conv => whnf); refine SCond.n (by assumption) ?_; (conv => whnf); refine SCond.n (by assumption) ?_; (conv => whnf); refine SPick.n (by assumption) ?_; (conv => whnf); refine Hid.cond rfl ?_; refine SIf.n Ty.mixed (by exact rfl) ?_; refine Xc_h ?_
      (conv => whnf); refine Hid.exit ?_; (conv => whnf); refine Hid.seq ?_; refine Hid.reg ?_; (conv => whnf); refine SLoad.on 0 rfl ?_; (conv => whnf); refine SStore.on 1 rfl ?_; (conv => whnf); refine Hid.ret ?_; (conv => whnf); refine SLoad.on 1 rfl ?_; (conv => whnf)
      exact ⟨fun _ => ⟨_, σ, .refl _, le_setBox hle hb2, ck, nx, ls, ⟨ck, nx, ls, l⟩, rfl, hg, rfl⟩⟩
end Go.Proofs.YtgliemhhnkhboaaGreatDoor
end
section
set_option linter.unusedVariables false
set_option linter.unusedSimpArgs false
set_option maxRecDepth 100000
set_option maxHeartbeats 2000000
namespace Go.Proofs.YtgliemhhnkhboaaGreatDoor
open Go.Al Go.RowKit
def zSub : List AV := [.int .i64 0, .str [], .str [], .str [], .int .i64 0, .int .i64 0, .int .i64 0, .nils, .nils, .str []]
theorem Grown.small2 {id clock next : Nat} {x : Sub} (h : Grown id clock next x) : Small x :=
  ⟨by have := h.nlen; omega, by have := h.topic.len; omega, by have := h.want.len; omega, fun m hm => by have := (h.msgs m hm).alen; omega, by have := h.nacks; omega, by have := h.nqueue; omega⟩
theorem Fine.put {l : List Sub} (h : Fine l) (hn : l.length ≤ 1000) {x : Sub} (ha : x.acks.length ≤ 1000000000) (hq : x.queue.length ≤ 1000000000) : Fine (putS l x) := by
  refine ⟨?_, fun y hy => ?_, fun y hy => ?_⟩
  · have h1 : (upto (_root_.Go.Proofs.YtgliemhhnkhboaaGreatDoor.wo l x.id) x.id ++ beyond (_root_.Go.Proofs.YtgliemhhnkhboaaGreatDoor.wo l x.id) x.id).length = (_root_.Go.Proofs.YtgliemhhnkhboaaGreatDoor.wo l x.id).length := by rw [upto_beyond]
    have h2 := wo_len l x.id
    rw [List.length_append] at h1
    rw [putS, List.length_append, List.length_cons]
    omega
  · rcases mem_put.1 hy with rfl | ⟨hy, _⟩
    · exact ha
    · exact h.a y hy
  · rcases mem_put.1 hy with rfl | ⟨hy, _⟩
    · exact hq
    · exact h.q y hy
theorem stateBack_any (w0 : Base) (hL : Laid w0) (c : List UInt8) (t : Tok) (d : List UInt8) (t' : Tok) (k : UInt8) (hc : c.length ≤ 9223372036854775807) (hd : d.length ≤ 9223372036854775807) (σ : St) : CallW Tryz.prog w0 4 [.slc 1 (aBytes c) t, .slc 1 (aBytes d) t', .int .u8 k.toNat] σ (fun r _ => r = .bool true) := by
  have hkn := known10_any w0 hL
  have hk := k.toNat_lt
  refine CallW.h (B := []) Ty.tok Ty.mixed Tryz.func4 rfl Tryz.ntmps4 rfl (by simp) (by decide +kernel) (.nil σ) ?_; (conv => whnf); refine Hid.seq ?_; refine Hid.reg ?_; (conv => whnf); refine Hid.seq ?_; refine Hid.reg ?_; (conv => whnf)
  skip
  refine SCall.w (state_any w0 c t hc _) rfl ?_; rintro r s ⟨ck, nx, ls, st, rfl, hg, rfl⟩ hB; refine ⟨_, hB, ?_⟩
  obtain ⟨clock, next, last, l⟩ := st
  obtain rfl : clock = ck := hg.clock
  obtain rfl : next = nx := hg.next
  have hck := hg.ckle
  have hnx := hg.nxle
  (conv => whnf); intro b7 hb7; (conv => whnf); refine SStore.on 0 rfl ?_; (conv => whnf); refine Hid.seq ?_; refine Hid.reg ?_; (conv => whnf); refine And.intro (by omega) ?_; (conv => whnf); refine ⟨_, IntWalk.i64_in _ (by omega), ?_⟩; (conv => whnf); refine ⟨_, IntWalk.i64_in _ (by omega), ?_⟩; (conv => whnf); refine SLoad.on 0 rfl ?_; (conv => whnf); refine SLoad.on 0 rfl ?_; (conv => whnf)
  refine SCall.w (sub_any w0 d t' (1 + k.toNat % 9) ck nx hd (by omega) (by omega) (by omega) _) rfl ?_; rintro r s ⟨x, rfl, hx, rfl⟩ hB; refine ⟨_, hB, ?_⟩
  have hf : Fine l := hg.fine
  have hxa : x.acks.length ≤ 1000000000 := by have := hx.nacks; omega
  have hxq : x.queue.length ≤ 1000000000 := by have := hx.nqueue; omega
  have hlen : l.length ≤ 7 := hg.len
  have hfp := Fine.put hf (by omega) hxa hxq
  have p1 := put_any w0 ⟨ck, nx, last, l⟩ x hf hxa hxq
  have p2 := find_any w0 ⟨ck, nx, last, putS l x⟩ x.id hfp
  have p3 := without_any w0 ⟨ck, nx, last, putS l x⟩ x.id hfp
  have p4 := without_any w0 ⟨ck, nx, last, l⟩ x.id hf
  have p5 := sameSub_any w0 x x hxq hxa
  have p6 := good_any w0 x ck nx hx.small2 (by omega) (by omega)
  have p7 := refSame_any w0 ⟨ck, nx, last, wo l x.id⟩ ⟨ck, nx, last, wo l x.id⟩ (hf.wo x.id)
  have e6 : goodT x ck nx = true := hx.good (by omega) (by omega)
  dsimp only at p1 p2 p3 p4
  rw [fnd_put] at p2
  rw [wo_put] at p3
  rw [decide_eq_true rfl] at p5
  rw [e6] at p6
  rw [show sameT ⟨ck, nx, last, wo l x.id⟩ ⟨ck, nx, last, wo l x.id⟩ = true by simp [sameT]] at p7
  (conv => whnf); intro b8 hb8; (conv => whnf); refine SStore.on 0 rfl ?_; (conv => whnf); refine Hid.seq ?_; refine Hid.reg ?_; (conv => whnf); refine SLoad.on 1 rfl ?_; (conv => whnf); refine SLoad.on 0 rfl ?_; (conv => whnf); refine SCall.p (by exact p1) ?_; (conv => whnf); intro b8 hb8; (conv => whnf); refine SStore.on 0 rfl ?_; (conv => whnf); refine Hid.seq ?_; refine Hid.reg ?_
  (conv => whnf); refine SLoad.on 0 rfl ?_; (conv => whnf); refine SLoad.on 1 rfl ?_; (conv => whnf); refine SCall.p (by exact p2) ?_; (conv => whnf); intro b8 hb8; (conv => whnf); refine SStore.on 0 rfl ?_; (conv => whnf); refine Hid.seq ?_; refine Hid.seq ?_; refine Hid.reg ?_; (conv => whnf); refine Hid.block ?_; refine Hid.loop ?_
  rename_i c8 hc8 c9 hc9
  have k7 : Know _ [(b7, [.int .i64 (ck : Nat), .int .i64 (nx : Nat), .int .i64 last, eSubs l])] := ((Know.nil s).new (cs := zT) hb7).set (i := 0) (ds := [.int .i64 (ck : Nat), .int .i64 (nx : Nat), .int .i64 last, eSubs l]) rfl
  have k8 : Know _ [(c8, (eSub x).cells), (b7, [.int .i64 (ck : Nat), .int .i64 (nx : Nat), .int .i64 last, eSubs l])] := (k7.new (cs := zSub) hc8).set (i := 0) (ds := (eSub x).cells) rfl
  have k9 : Know _ [(c9, [.int .i64 (ck : Nat), .int .i64 (nx : Nat), .int .i64 last, eSubs (putS l x)]), (c8, (eSub x).cells), (b7, [.int .i64 (ck : Nat), .int .i64 (nx : Nat), .int .i64 last, eSubs l])] := (k8.new (cs := zT) hc9).set (i := 0) (ds := [.int .i64 (ck : Nat), .int .i64 (nx : Nat), .int .i64 last, eSubs (putS l x)]) rfl
  refine SLoop.fz 10 0 _ _ rfl (le_new2 (.refl _) hb8) hb8 k9 rfl rfl ?_; refine SLoop.fz 9 0 _ _ rfl (le_new2 (.refl _) hc9) hc9 k8 rfl rfl ?_; refine SLoop.fz 8 0 _ _ rfl (le_new2 (.refl _) hc8) hc8 k7 rfl rfl ?_; refine SLoop.fz 7 0 _ _ rfl (le_new2 (.refl _) hb7) hb7 (.nil s) rfl rfl ?_; clear k7 k8 k9
  refine SLoop.by Ty.mixed (fun i : Nat => l.length - i) (fun i => [(7, .vp (.agg [.int .i64 (ck : Nat), .int .i64 (nx : Nat), .int .i64 last, eSubs l])), (8, .vp (eSub x)), (9, .vp (.agg [.int .i64 (ck : Nat), .int .i64 (nx : Nat), .int .i64 last, eSubs (putS l x)])), (10, .vp (eSub x)), (11, .bool true), (12, .int .i64 i)]) (fun _ => []) (fun i _ => i ≤ l.length) 0 ⟨by repeat (first | exact trivial | refine ⟨by first | trivial | exact Weak.refl _ | exact Weak.tok _ _ _ | exact Weak.of_eq (congrArg (AV.int _) (by omega)) | exact Weak.of_eq (congrArg AV.bool (by fail)) | exact Weak.nils _ _ (.inr rfl), ?_⟩), .none _, Nat.zero_le _⟩ ?_
  have hml : (l.map eSub).length = l.length := by simp
  rintro i τ hi
  by_cases hlt : i < l.length
  · have ga : (l.map eSub)[i]? = some (eSub l[i]) := by simp [hlt]
    have hfn := hg.asc.fnd (List.getElem_mem hlt)
    have hya := hf.a _ (List.getElem_mem hlt)
    have hyq := hf.q _ (List.getElem_mem hlt)
    have hoth : (l[i]).id ≠ x.id → fnd (putS l x) (l[i]).id = fnd l (l[i]).id := fun hh => fnd_other l x hh
    generalize l[i] = y at *
    have q5 := sameSub_any w0 y y hyq hya
    rw [decide_eq_true rfl] at q5
    by_cases he : y.id = x.id
    · have qf := p2
      rw [← he] at qf
      have d1 : (!decide (y.id = x.id)) = false := by simp [he]
      refine Xc_h ?_; (conv => whnf); refine Hid.seq ?_; refine Hid.seq ?_; refine Hid.reg ?_; (conv => whnf); refine Hid.cond rfl ?_
      skip
      refine SIf.y Ty.mixed (decide_eq_true (by rw [hml]; omega)) ?_; refine Xc_h ?_; (conv => whnf); refine Hid.skip ?_; (conv => whnf); refine Hid.seq ?_; refine Hid.seq ?_; refine Hid.regD ?_; refine SReg.t 0 [] (by decide +kernel) ?_; (conv => whnf); (conv => whnf)
      refine ⟨_, ⟨by first | omega | (rw [hml]; omega) | (simp only [hml]; omega) | fail, by exact ga⟩, ?_⟩
      (conv => whnf); refine SCall.p (by exact qf) ?_; (conv => whnf); intro b13 hb13; (conv => whnf); refine SStore.on 0 rfl ?_; (conv => whnf); refine Hid.seq ?_; refine Hid.regD ?_; refine SReg.t 1 [] (by decide +kernel) ?_; (conv => whnf); (conv => whnf)
      refine ⟨_, ⟨by first | omega | (rw [hml]; omega) | (simp only [hml]; omega) | fail, by exact ga⟩, ?_⟩
      (conv => whnf); refine SCond.n (by assumption) ?_; (conv => whnf); refine SCond.n (by assumption) ?_; (conv => whnf); refine SCond.n (by assumption) ?_; (conv => whnf); refine SCond.n (by assumption) ?_; (conv => whnf); refine SPick.n (by assumption) ?_; (conv => whnf); refine Hid.cond rfl ?_; refine SIf.n Ty.mixed (by exact rfl) ?_; refine Xc_h ?_; (conv => whnf); refine Hid.skip ?_
      (conv => whnf); refine Hid.reg ?_; (conv => whnf); refine ⟨_, IntWalk.i64_in _ (by omega), ?_⟩; (conv => whnf)
      exact ⟨i + 1, by omega, by repeat (first | exact trivial | refine ⟨by first | trivial | exact Weak.refl _ | exact Weak.tok _ _ _ | exact Weak.of_eq (congrArg (AV.int _) (by omega)) | exact Weak.of_eq (congrArg AV.bool (by fail)) | exact Weak.nils _ _ (.inr rfl), ?_⟩), .none _, hlt⟩
    · have qf := find_any w0 ⟨ck, nx, last, putS l x⟩ y.id hfp
      dsimp only at qf
      rw [hoth he, hfn] at qf
      have d1 : (!decide (y.id = x.id)) = true := by simp [he]
      refine Xc_h ?_; (conv => whnf); refine Hid.seq ?_; refine Hid.seq ?_; refine Hid.reg ?_; (conv => whnf); refine Hid.cond rfl ?_
      skip
      refine SIf.y Ty.mixed (decide_eq_true (by rw [hml]; omega)) ?_; refine Xc_h ?_; (conv => whnf); refine Hid.skip ?_; (conv => whnf); refine Hid.seq ?_; refine Hid.seq ?_; refine Hid.regD ?_; refine SReg.t 0 [] (by decide +kernel) ?_; (conv => whnf); (conv => whnf)
      refine ⟨_, ⟨by first | omega | (rw [hml]; omega) | (simp only [hml]; omega) | fail, by exact ga⟩, ?_⟩
      (conv => whnf); refine SCall.p (by exact qf) ?_; (conv => whnf); intro b13 hb13; (conv => whnf); refine SStore.on 0 rfl ?_; (conv => whnf); refine Hid.seq ?_; refine Hid.regD ?_; refine SReg.t 1 [] (by decide +kernel) ?_; (conv => whnf); (conv => whnf)
      refine ⟨_, ⟨by first | omega | (rw [hml]; omega) | (simp only [hml]; omega) | fail, by exact ga⟩, ?_⟩
      (conv => whnf); refine SCond.y (by assumption) ?_; (conv => whnf); refine SCond.y (by assumption) ?_; (conv => whnf); refine SCond.y (by assumption) ?_; (conv => whnf); refine SCond.n (by exact rfl) ?_; (conv => whnf); refine SLoad.on 0 rfl ?_; (conv => whnf); refine SCond.n (by exact rfl) ?_; (conv => whnf); refine SCond.n (by exact rfl) ?_; (conv => whnf); refine SCond.n (by exact rfl) ?_
      (conv => whnf); refine SCond.n (by exact rfl) ?_; (conv => whnf)
      refine ⟨_, ⟨by first | omega | (rw [hml]; omega) | (simp only [hml]; omega) | fail, by exact ga⟩, ?_⟩
      (conv => whnf); refine SCond.n (by exact rfl) ?_; (conv => whnf); refine SCond.n (by exact rfl) ?_; (conv => whnf); refine SCall.p (by exact q5) ?_; (conv => whnf); refine SCond.n (by exact rfl) ?_; (conv => whnf); refine SCond.y (by assumption) ?_; (conv => whnf); refine SPick.n (by exact rfl) ?_; (conv => whnf); refine SPick.y (by assumption) ?_; (conv => whnf); refine Hid.cond rfl ?_
      refine SIf.n Ty.mixed (by exact rfl) ?_; refine Xc_h ?_; (conv => whnf); refine Hid.skip ?_; (conv => whnf); refine Hid.reg ?_; (conv => whnf); refine ⟨_, IntWalk.i64_in _ (by omega), ?_⟩; (conv => whnf)
      exact ⟨i + 1, by omega, by repeat (first | exact trivial | refine ⟨by first | trivial | exact Weak.refl _ | exact Weak.tok _ _ _ | exact Weak.of_eq (congrArg (AV.int _) (by omega)) | exact Weak.of_eq (congrArg AV.bool (by fail)) | exact Weak.nils _ _ (.inr rfl), ?_⟩), .none _, hlt⟩
  · have hge : i = l.length := by omega
    refine Xc_h ?_; (conv => whnf); refine Hid.seq ?_; refine Hid.seq ?_; refine Hid.reg ?_; (conv => whnf); refine Hid.cond rfl ?_
    skip
    refine SIf.n Ty.mixed (decide_eq_false (by rw [hml]; omega)) ?_; refine Xc_h ?_; (conv => whnf); refine Hid.exit ?_; (conv => whnf); refine Hid.seq ?_; refine Hid.regD ?_; refine SReg.t 1 [] (by decide +kernel) ?_; (conv => whnf); (conv => whnf); refine SCall.p (by exact hkn) ?_; (conv => whnf); refine SCond.y (by exact rfl) ?_; (conv => whnf); refine SPick.y (by exact rfl) ?_; (conv => whnf)
    refine SCond.y (by exact rfl) ?_; (conv => whnf); refine SCond.y (by exact rfl) ?_; (conv => whnf); refine SCond.y (by exact rfl) ?_; (conv => whnf); refine SCall.p (by exact p5) ?_; (conv => whnf); refine SPick.y (by exact rfl) ?_; (conv => whnf); refine SCond.y (by exact rfl) ?_; (conv => whnf); refine SCond.y (by exact rfl) ?_; (conv => whnf); refine SCond.y (by exact rfl) ?_; (conv => whnf)
    refine SCond.y (by exact rfl) ?_; (conv => whnf); refine SCall.p (by exact p3) ?_; (conv => whnf); refine SCond.y (by exact rfl) ?_; (conv => whnf); refine SCond.y (by exact rfl) ?_; (conv => whnf); refine SCond.y (by exact rfl) ?_; (conv => whnf); refine SCond.y (by exact rfl) ?_; (conv => whnf); refine SCall.p (by exact p4) ?_; (conv => whnf); refine SCond.y (by exact rfl) ?_; (conv => whnf)
    refine SCall.p (by exact p7) ?_; (conv => whnf); refine SPick.y (by exact rfl) ?_; (conv => whnf); refine SCond.y (by exact rfl) ?_; (conv => whnf); refine SCond.y (by exact rfl) ?_; (conv => whnf); refine SCond.y (by exact rfl) ?_; (conv => whnf); refine SCond.y (by exact rfl) ?_; (conv => whnf); refine SCond.y (by exact rfl) ?_; (conv => whnf); refine SCond.y (by exact rfl) ?_; (conv => whnf)
    refine SCall.p (by exact p6) ?_; (conv => whnf); refine SPick.y (by exact rfl) ?_; (conv => whnf); refine Hid.ret ?_; (conv => whnf); exact .w rfl
end Go.Proofs.YtgliemhhnkhboaaGreatDoor
end
