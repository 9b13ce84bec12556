/- The law TwoGaps returns true for every input, and its arguments read as before: the tied card. No conditions. This is part 6 of 7 of its proof; the parts are read in order. No conditions. -/
import Derived.Test.YtkbmkhhcppfcnaaDoorCTwoGapsP5
section
set_option linter.unusedVariables false
set_option linter.unusedSimpArgs false
set_option maxRecDepth 100000
set_option maxHeartbeats 1000000
namespace Go.Proofs.YtkbmkhhcppfcnaaDoor
open Go.Al Go.RowKit
theorem cl_nat {n : Nat} (h : n ≤ 9999999999) : cl (n : Int) = n := by unfold cl; omega
theorem parts_key (w0 : World) (hL : Laid w0) (v : Nat) (hv : v < 10) (t : UInt8) (ht : 97 ≤ t.toNat ∧ t.toNat ≤ 122) (id seq : Nat) (hid : id ≤ 9999999999) (hseq : seq ≤ 9999999999) :
    CallP Tryd.prog w0 44 [.str (rkey v t id seq)] (.tup [.int .i64 v, .int .u8 t.toNat, .int .i64 id, .int .i64 seq, .bool true]) := by
  have hk := rkey_length v t id seq
  have hA := dN_length 10 (cl id)
  have hB := dN_length 10 (cl seq)
  have i1 := atoi_dN 9 (cl id) (cl_lt _)
  have i2 := atoi_dN 9 (cl seq) (cl_lt _)
  have hc : (UInt8.ofNat (48 + v)).toNat = 48 + v := by simp; omega
  have hK := keyS_any w0 hL v hv t id seq
  have hbyte : IntKind.i64.wrap (((Al.byteOf (((UInt8.ofNat (48 + v)).toNat : Int) - 48)).toNat : Nat) : Int) = ((v : Nat) : Int) := by
    rw [sub48 (by omega), hc]; congr 1; omega
  have hv' : (UInt8.ofNat (48 + v)).toNat - 48 = v := by omega
  have e1 : ((rkey v t id seq).take (12 : Int).toNat).drop (2 : Int).toNat = dN 10 (cl id) := by
    show ((dN 10 (cl id)) ++ (dN 10 (cl seq))).take 10 = _
    rw [List.take_append_of_le_length (by omega), List.take_of_length_le (by omega)]
  have e2 : ((rkey v t id seq).take (((rkey v t id seq).length : Nat) : Int).toNat).drop (12 : Int).toNat = dN 10 (cl seq) := by
    rw [Int.toNat_natCast, List.take_length]
    show ((dN 10 (cl id)) ++ (dN 10 (cl seq))).drop 10 = _
    rw [List.drop_append_of_le_length (by omega), List.drop_of_length_le (by omega)]; rfl
  have := parts_any w0 (rkey v t id seq) (UInt8.ofNat (48 + v)) t id seq hk rfl rfl (by omega) ht (by rw [e1]; have := atoi_any w0 hL (dN 10 (cl id)) (cl id : Nat) (by omega) i1; rwa [cl_nat hid] at this ⊢) (by rw [e2]; have := atoi_any w0 hL (dN 10 (cl seq)) (cl seq : Nat) (by omega) i2; rwa [cl_nat hseq] at this ⊢) (by rw [hbyte]; exact hK)
  rwa [hv'] at this
def V0 : List UInt8 := [1, 110, 1, 35, 0, 1, 1, 0, 0]
def x0 : Sub := ⟨1, [110], [35], [], 1, 1, 0, [], [], []⟩
def z0 : Sub := ⟨0, [], [], [], 0, 0, 0, [], [], []⟩
def row0 : Row := ⟨rkey 3 115 1 0, V0⟩
theorem num1 : num 1 = [1] := by unfold num; rw [show clampN 1 = 1 from rfl, numB_small (by decide)]; rfl
theorem num0 : num 0 = [0] := by unfold num; rw [show clampN 0 = 0 from rfl, numB_small (by decide)]; rfl
theorem enc_x0 : enc3 x0 = [row0] := by
  have : subB x0 = V0 := by simp [subB, x0, txt, num1, num0, V0]
  simp [enc3, x0] at this ⊢
  rw [this]; rfl
theorem fits_x0 : Fits x0 := ⟨by decide, by decide, by decide, by decide, by decide, by decide, by simp [x0]⟩
theorem fits_z0 : Fits z0 := ⟨by decide, by decide, by decide, by decide, by decide, by decide, by simp [z0]⟩
def xA : AV := .agg [.int .i64 1, .str [110], .str [35], .str [], .int .i64 1, .int .i64 1, .int .i64 0, .nils, .nils, .str []]
def zA : AV := .agg [.int .i64 0, .str [], .str [], .str [], .int .i64 0, .int .i64 0, .int .i64 0, .nils, .nils, .str []]
theorem weak_x0 : Weak (eSub x0) xA := .agg (.cons (.refl _) (.cons (.refl _) (.cons (.refl _) (.cons (.refl _) (.cons (.refl _) (.cons (.refl _) (.cons (.refl _) (.cons (.nils _ _ (.inl rfl)) (.cons (.nils _ _ (.inl rfl)) (.cons (.refl _) .nil)))))))))) (by decide)
theorem weak_z0 : Weak (eSub z0) zA := .agg (.cons (.refl _) (.cons (.refl _) (.cons (.refl _) (.cons (.refl _) (.cons (.refl _) (.cons (.refl _) (.cons (.refl _) (.cons (.nils _ _ (.inl rfl)) (.cons (.nils _ _ (.inl rfl)) (.cons (.refl _) .nil)))))))))) (by decide)
theorem enc_xA (w0 : World) (hL : Laid w0) : CallP Tryd.prog w0 16 [xA] (.slc 2 [eRow row0] .no) := fun σ => by
  have := (encW_room w0 hL x0 fits_x0 σ).room
  rw [enc_x0] at this
  exact CallW.weak1 [] [] weak_x0 this
theorem enc_zA (w0 : World) (hL : Laid w0) : CallP Tryd.prog w0 16 [zA] (.slc 2 ((enc3 z0).map eRow) .no) := fun σ =>
  CallW.weak1 [] [] weak_z0 (encW_room w0 hL z0 fits_z0 σ).room
theorem rt (w0 : World) {b : Nat} {σ : St} (a a' : Nat) (s : List UInt8) (ha : a ≤ 10) (h : rText V0 a none 30 = (s, a', none)) (hb : σ.box b = some (rd V0 a none)) : CallW Tryd.prog w0 47 [.ptr b 0, .int .i64 30] σ (fun r s' => r = .str s ∧ s' = σ.setBox b (rd V0 a' none)) := by
  have := rtext_any w0 V0 a 30 none b σ (by decide) (by omega) (by decide) hb
  rw [h] at this
  exact this
theorem rn (w0 : World) {b : Nat} {σ : St} (a a' n : Nat) (ha : a ≤ 10) (h : rNum V0 a none = (n, a', none)) (hb : σ.box b = some (rd V0 a none)) : CallW Tryd.prog w0 45 [.ptr b 0] σ (fun r s' => r = .int .i64 n ∧ s' = σ.setBox b (rd V0 a' none)) := by
  have := rnum_any w0 V0 a none b σ (by decide) (by omega) hb
  rw [h] at this
  exact this
end Go.Proofs.YtkbmkhhcppfcnaaDoor
end
section
set_option linter.unusedVariables false
set_option linter.unusedSimpArgs false
set_option maxRecDepth 100000
set_option maxHeartbeats 2000000
namespace Go.Proofs.YtkbmkhhcppfcnaaDoor
open Go.Al Go.RowKit
def subC (x : Sub) (ta tq : Tok) : List AV := [.int .i64 x.id, .str x.name, .str x.topic, .str x.want, .int .i64 x.lease, .int .i64 x.most, .int .i64 x.floor, .slc 1 (x.acks.map (.int .i64)) ta, .slc 8 (x.queue.map eMsg) tq, .str x.note]
def msgC (m : Msg) : List AV := [.int .i64 m.seq, .str m.body, .str m.attr, .int .i64 m.tries, .int .i64 m.until_, .bool m.dead, .str m.why, .int .i64 m.prio]
theorem weak_sub (x : Sub) (ta tq : Tok) : Weak (eSub x) (.agg (subC x ta tq)) := .agg (.cons (.refl _) (.cons (.refl _) (.cons (.refl _) (.cons (.refl _) (.cons (.refl _) (.cons (.refl _) (.cons (.refl _) (.cons (.tok _ _ _) (.cons (.tok _ _ _) (.cons (.refl _) .nil)))))))))) (by simp [AV.one, eInts, eMsgs])
def z10 : List AV := [.int .i64 0, .str [], .str [], .str [], .int .i64 0, .int .i64 0, .int .i64 0, .nils, .nils, .str []]
structure InSub (σ s : St) (b8 bx : Nat) (x : Sub) (ta tq : Tok) : Prop where
  r : s.box b8 = some z10
  b : s.box bx = some (subC x ta tq)
  ma : Moves σ .full s ta
  mq : Moves σ .full s tq
  d : ∀ p, tq = .own p → ta ≠ .own p
theorem InSub.set {σ s : St} {b8 bx : Nat} {x x' : Sub} {ta tq : Tok} (h : InSub σ s b8 bx x ta tq) (hne : b8 ≠ bx) (hbx : σ.box bx = none) : InSub σ (s.setBox bx (subC x' ta tq)) b8 bx x' ta tq :=
  ⟨hb_ne hne h.r, setBox_same, h.ma.new hbx, h.mq.new hbx, h.d⟩
theorem InSub.other {σ s : St} {b8 bx b : Nat} {x : Sub} {ta tq : Tok} {cs : List AV} (h : InSub σ s b8 bx x ta tq) (h8 : b8 ≠ b) (hx : bx ≠ b) (hb : σ.box b = none) : InSub σ (s.setBox b cs) b8 bx x ta tq :=
  ⟨hb_ne h8 h.r, hb_ne hx h.b, h.ma.new hb, h.mq.new hb, h.d⟩
theorem InSub.acks {σ s σ1 : St} {b8 bx : Nat} {x x' : Sub} {ta tq tk : Tok} (h : InSub σ s b8 bx x ta tq) (hne : b8 ≠ bx) (hbx : σ.box bx = none) (hm : Moves s ta σ1 tk) : InSub σ (σ1.setBox bx (subC x' tk tq)) b8 bx x' tk tq := by
  obtain ⟨h1, h2, h3⟩ := Moves.two h.ma h.mq h.d hm
  exact ⟨hb_ne hne (hm.box _ _ h.r), setBox_same, h1.new hbx, h2.new hbx, h3⟩
theorem InSub.queue {σ s σ1 : St} {b8 bx : Nat} {x x' : Sub} {ta tq tk : Tok} (h : InSub σ s b8 bx x ta tq) (hne : b8 ≠ bx) (hbx : σ.box bx = none) (hm : Moves s tq σ1 tk) : InSub σ (σ1.setBox bx (subC x' ta tk)) b8 bx x' ta tk := by
  obtain ⟨h1, h2, h3⟩ := Moves.two h.mq h.ma (fun p e e' => h.d p e' e) hm
  exact ⟨hb_ne hne (hm.box _ _ h.r), setBox_same, h2.new hbx, h1.new hbx, fun p e e' => h3 p e' e⟩
theorem sub_any (w0 : World) (c : List UInt8) (t : Tok) (id clock next : Nat) (hc : c.length ≤ 9223372036854775807) (hid : id ≤ 1000) (hclock : clock ≤ 100000000) (hnext : 1 ≤ next ∧ next ≤ 100000) (σ : St) :
    CallW Tryd.prog w0 33 [.slc 1 (aBytes c) t, .int .i64 id, .int .i64 clock, .int .i64 next] σ (fun r s => ∃ x, r = eSub x ∧ Grown id clock next x ∧ s = σ) := by
  refine CallW.start Tryd.func33 rfl Tryd.ntmps33 (by simp) fun Q hQ => ?_
  have g0 := gL_lt c 0
  have g1 := gL_lt c 1
  have g2 := gL_lt c 2
  have g3 := gL_lt c 3
  have g4 := gL_lt c 4
  have hm0 : gL c 0 % 20 ≤ 19 := by omega
  have hlt0 := textL_len (gL c 0) 19
  refine W.seq ?_; refine W.regionL (by decide +kernel) rfl ?_; apply r_alloc; exact rfl; exact rfl; decide; exact rfl; (conv => (lhs; whnf)); intro b1 hb1; refine runs_done ?_; show W _ _ _ _ _ _ _
  obtain ⟨tp, htp, htl⟩ : ∃ v : List UInt8, [AV.str [35], .str [97], .str [97, 47, 43], .str [98, 47, 35]][((gL c 1 : Int) % 4).toNat]? = some (.str v) ∧ TopicOk v := by
    have h : gL c 1 % 4 < 4 := Nat.mod_lt _ (by decide)
    rw [show ((gL c 1 : Int) % 4).toNat = gL c 1 % 4 by omega]
    generalize gL c 1 % 4 = q at h
    match q, h with
    | 0, _ => exact ⟨_, rfl, .inl rfl⟩
    | 1, _ => exact ⟨_, rfl, .inr (.inl rfl)⟩
    | 2, _ => exact ⟨_, rfl, .inr (.inr (.inl rfl))⟩
    | 3, _ => exact ⟨_, rfl, .inr (.inr (.inr rfl))⟩
  obtain ⟨wn, hwn, hwl⟩ : ∃ v : List UInt8, [AV.str [], .str [97, 61, 49], .str [97, 61, 49, 44, 98, 61, 50]][((gL c 1 : Int) / 4 % 3).toNat]? = some (.str v) ∧ WantOk v := by
    have h : gL c 1 / 4 % 3 < 3 := Nat.mod_lt _ (by decide)
    rw [show ((gL c 1 : Int) / 4 % 3).toNat = gL c 1 / 4 % 3 by omega]
    generalize gL c 1 / 4 % 3 = q at h
    match q, h with
    | 0, _ => exact ⟨_, rfl, .inl rfl⟩
    | 1, _ => exact ⟨_, rfl, .inr (.inl rfl)⟩
    | 2, _ => exact ⟨_, rfl, .inr (.inr rfl)⟩
  refine W.seq ?_; refine W.regionDK 0 [] Ty.mixed (by decide +kernel) (by decide +kernel) rfl ?_; apply r_op; exact rfl; exact rfl; apply a_move; (conv => (lhs; whnf)); apply r_op; exact rfl; exact rfl; apply a_move; (conv => (lhs; whnf)); apply r_callP; exact rfl; exact rfl; exact rfl; exact rfl; exact rfl; infer_instance; exact g_any w0 c t 0; apply r_callP; exact rfl; exact rfl; exact rfl
  exact rfl; exact rfl; infer_instance; exact lawtext_any w0 (gL c 0) 19 (by omega) (by omega); apply r_op; exact rfl; exact rfl; apply g_binOp; exact a_addS rfl rfl (by simp only [length_aBytes, List.length_append, List.length_cons, List.length_nil, List.length_map, List.length_range]; omega); apply r_op; exact rfl; exact rfl; apply g_buildSlice; apply a_buildN
  apply EvP.cons (by (conv => (lhs; whnf))); apply EvP.cons (by (conv => (lhs; whnf))); apply EvP.cons (by (conv => (lhs; whnf))); apply EvP.cons (by (conv => (lhs; whnf))); exact EvP.nil; (conv => (lhs; whnf)); exact rfl; exact rfl; decide; apply r_op; exact rfl; exact rfl; apply a_move; (conv => (lhs; whnf)); apply r_callP; exact rfl; exact rfl; exact rfl; exact rfl; exact rfl; infer_instance
  exact g_any w0 c t 1; apply r_op; exact rfl; exact rfl; apply g_binOp; exact a_rem rfl rfl (by omega); apply r_op; exact rfl; exact rfl; apply g_indexAddr; exact a_indexAddr rfl rfl (by decide) (by omega) (by assumption); apply r_op; exact rfl; exact rfl; apply g_load; exact a_load1 rfl rfl; apply r_op; exact rfl; exact rfl; apply g_buildSlice; apply a_buildN
  apply EvP.cons (by (conv => (lhs; whnf))); apply EvP.cons (by (conv => (lhs; whnf))); apply EvP.cons (by (conv => (lhs; whnf))); exact EvP.nil; (conv => (lhs; whnf)); exact rfl; exact rfl; decide; apply r_op; exact rfl; exact rfl; apply a_move; (conv => (lhs; whnf)); apply r_callP; exact rfl; exact rfl; exact rfl; exact rfl; exact rfl; infer_instance; exact g_any w0 c t 1; apply r_op; exact rfl
  exact rfl; apply g_binOp; exact a_quo64 rfl rfl (by omega); apply r_op; exact rfl; exact rfl; apply g_binOp; exact a_rem rfl rfl (by omega); apply r_op; exact rfl; exact rfl; apply g_indexAddr; exact a_indexAddr rfl rfl (by decide) (by omega) (by assumption); apply r_op; exact rfl; exact rfl; apply g_load; exact a_load1 rfl rfl; apply r_op; exact rfl; exact rfl; apply a_move
  (conv => (lhs; whnf)); apply r_callP; exact rfl; exact rfl; exact rfl; exact rfl; exact rfl; infer_instance; exact g_any w0 c t 2; apply r_op; exact rfl; exact rfl; apply g_binOp; exact a_mul64 rfl rfl (by omega); apply r_op; exact rfl; exact rfl; apply g_binOp; exact a_add64 rfl rfl (by omega); apply r_op; exact rfl; exact rfl; apply a_move; (conv => (lhs; whnf)); apply r_callP; exact rfl
  exact rfl; exact rfl; exact rfl; exact rfl; infer_instance; exact g_any w0 c t 3; apply r_op; exact rfl; exact rfl; apply g_binOp; exact a_rem rfl rfl (by omega); apply r_op; exact rfl; exact rfl; apply g_binOp; exact a_add64 rfl rfl (by omega); apply r_op; exact rfl; exact rfl; apply a_move; (conv => (lhs; whnf)); apply r_callP; exact rfl; exact rfl; exact rfl; exact rfl; exact rfl
  infer_instance; exact g_any w0 c t 4; apply r_op; exact rfl; exact rfl; apply a_move; (conv => (lhs; whnf)); apply r_op; exact rfl; exact rfl; apply g_binOp; exact a_rem rfl rfl (by omega); apply r_op; exact rfl; exact rfl; apply g_build; apply a_build; apply EvP.cons (by (conv => (lhs; whnf))); apply EvP.cons (by (conv => (lhs; whnf))); apply EvP.cons (by (conv => (lhs; whnf)))
  apply EvP.cons (by (conv => (lhs; whnf))); apply EvP.cons (by (conv => (lhs; whnf))); apply EvP.cons (by (conv => (lhs; whnf))); apply EvP.cons (by (conv => (lhs; whnf))); exact EvP.nil
  simp only [aFill, List.getElem?_cons_zero, List.getElem?_cons_succ, AV.cells, List.length_cons, List.length_nil, AV.flat, AV.one, setL, List.set_cons_zero, List.set_cons_succ, Nat.reduceAdd, Nat.reduceLeDiff, Nat.reduceMul, and_self, if_true, ↓reduceIte, Nat.zero_add, Nat.le_refl, List.range, List.range.loop, List.map_cons, List.map_nil, Nat.zero_le]
  rfl; apply r_alloc; exact rfl; exact rfl; decide; exact rfl; (conv => (lhs; whnf)); intro b1 hb1; apply r_store; exact rfl; exact rfl; exact rfl; decide; infer_instance; exact rfl; exact setBox_same; (conv => (lhs; whnf)); exact rfl; (conv => (lhs; whnf)); exact rfl; exact of_decide_eq_true rfl; exact setL_whole rfl; refine runs_done ?_; show W _ _ _ _ _ _ _
  rename_i b8 hb8
  have hne : b8 ≠ b1 := ne_none' hb1
  have hbx : σ.box b1 = none := none_in hb1
  generalize b1 = bx at hne hbx hb1 ⊢
  generalize hx1 : (⟨id, [110] ++ textL (gL c 0) 19, tp, wn, 1 + (gL c 2 : Int) * 3, 1 + (gL c 3 : Int) % 9, (gL c 4 : Int) % (next : Int), [], [], []⟩ : Sub) = x1
  have hs1 : InSub σ (((σ.setBox b8 z10).setBox bx z10).setBox bx (subC x1 .full .full)) b8 bx x1 .full .full := by
    rw [setBox_setBox]
    exact ⟨hb_ne hne setBox_same, setBox_same, ((Moves.full σ).new hb8).new hbx, ((Moves.full σ).new hb8).new hbx, fun p e => by cases e⟩
  have hgr : Grown id clock next x1 := by
    subst hx1
    refine ⟨⟨gL c 0, g0, rfl⟩, htl, hwl, by simp, rfl, ?_, ?_, ?_, by simp, by simp, trivial, by simp, trivial, by simp, by simp, by simp⟩
    · show 1 ≤ 1 + (gL c 3 : Int) % 9 ∧ 1 + (gL c 3 : Int) % 9 ≤ 9; omega
    · show 1 ≤ 1 + (gL c 2 : Int) * 3 ∧ 1 + (gL c 2 : Int) * 3 ≤ 1000; omega
    · exact ⟨Int.emod_nonneg _ (by omega), Int.emod_lt_of_pos _ (by omega)⟩
  have hup : UpTo x1 x1.floor := by subst hx1; exact ⟨Int.le_refl _, by simp, by simp⟩
  refine W.weakBox (b := bx) (ds := subC x1 .full .full) setBox_same ?_ ?_
  · subst hx1
    exact .cons (.refl _) (.cons (.refl _) (.cons (.refl _) (.cons (.refl _) (.cons (.refl _) (.cons (.refl _) (.cons (.refl _) (.cons (.nils 1 .full (.inr rfl)) (.cons (.nils 8 .full (.inr rfl)) (.cons (.refl _) .nil)))))))))
  rw [setBox_setBox, setBox_setBox]
  rw [setBox_setBox] at hs1
  change W Tryd.prog w0 _ _ _ _ ((σ.setBox b8 z10).setBox bx (subC x1 .full .full))
  generalize (σ.setBox b8 z10).setBox bx (subC x1 .full .full) = s1 at hs1 ⊢
  have hlt5 := textL_len (gL c 5) 30
  have g5 := gL_lt c 5
  refine W.seq ?_; refine W.meet (fun E s => ∃ x, Grown id clock next x ∧ UpTo x x.floor ∧ InSub σ s b8 bx x .full .full ∧ Has [(0, .slc 1 (aBytes c) t), (2, .int .i64 clock), (3, .int .i64 next), (8, .ptr b8 0), (9, .ptr bx 0)] E) ?_ ?_
  · have hb1 := hs1.b
    refine W.seq ?_; refine W.regionL (by decide +kernel) rfl ?_; apply r_op; exact rfl; exact rfl; apply a_move; (conv => (lhs; whnf)); apply r_callP; exact rfl; exact rfl; exact rfl; exact rfl; exact rfl; infer_instance; exact g_any w0 c t 5; apply r_op; exact rfl; exact rfl; apply g_binOp; exact a_binI rfl rfl rfl; (with_reducible refine runs_done ?_)
    refine W.cond rfl (fun hc => ?_) (fun hc => ?_)
    · refine W.regionL (by decide +kernel) rfl ?_
      apply r_op; exact rfl; exact rfl; apply a_move; (conv => (lhs; whnf)); apply r_callP; exact rfl; exact rfl; exact rfl; exact rfl; exact rfl; infer_instance; exact g_any w0 c t 5; apply r_callP; exact rfl; exact rfl; exact rfl; exact rfl; exact rfl; infer_instance; exact lawtext_any w0 (gL c 5) 30 (by omega) (by omega); apply r_op; exact rfl; exact rfl; apply g_fieldAddr
      exact a_fieldAddrP rfl (by decide); apply r_store; exact rfl; exact rfl; exact rfl; decide; infer_instance; exact rfl; assumption; (conv => (lhs; whnf)); exact rfl; (conv => (lhs; whnf)); exact rfl; exact of_decide_eq_true rfl; exact rfl; (with_reducible refine runs_done ?_)
      exact ⟨{ x1 with note := textL (gL c 5) 30 }, hgr.withNote hlt5, ⟨hup.floor, hup.acks, hup.queue⟩, hs1.set (x' := { x1 with note := textL (gL c 5) 30 }) hne hbx, by exact Has.by (by repeat (first | exact trivial | refine ⟨by first | trivial | exact Weak.refl _ | exact Weak.tok _ _ _ | exact Weak.of_eq (congrArg (AV.int _) (by omega)) | exact Weak.nils _ _ (.inr rfl), ?_⟩))⟩
    · refine W.skip ?_
      exact ⟨x1, hgr, hup, hs1, by exact Has.by (by repeat (first | exact trivial | refine ⟨by first | trivial | exact Weak.refl _ | exact Weak.tok _ _ _ | exact Weak.of_eq (congrArg (AV.int _) (by omega)) | exact Weak.nils _ _ (.inr rfl), ?_⟩))⟩
  · rintro E s ⟨x, hgr, hup, hs, hE⟩
    refine W.has hE ?_; clear hE hs1
    have hb := hs.b
    refine W.seq ?_; refine W.regionL (by decide +kernel) rfl ?_; apply r_op; exact rfl; exact rfl; apply g_fieldAddr; exact a_fieldAddrP rfl (by decide); apply r_load; exact rfl; exact rfl; exact rfl; decide; exact rfl; assumption; exact aLoad1 rfl; apply r_op; exact rfl; exact rfl; apply a_assign; (conv => (lhs; whnf)); refine runs_done ?_; show W _ _ _ _ _ _ _; refine W.seq ?_
    refine W.meet (fun E s => ∃ x ta tq, Grown id clock next x ∧ InSub σ s b8 bx x ta tq ∧ Has [(8, .ptr b8 0), (9, .ptr bx 0)] E) ?_ ?_
    · refine W.seq ?_
      refine W.regionL (by decide +kernel) rfl ?_; apply r_op; exact rfl; exact rfl; apply a_assign; (conv => (lhs; whnf)); (with_reducible refine runs_done ?_); refine W.block ?_
      refine W.loop (fun k E s => ∃ (i : Nat) (seq : Int) (x : Sub) (ta tq : Tok), k = 100 - i ∧ 6 ≤ i ∧ i ≤ 69 ∧ 0 ≤ seq ∧ seq < next ∧ Grown id clock next x ∧ UpTo x seq ∧ InSub σ s b8 bx x ta tq ∧ Has [(0, .slc 1 (aBytes c) t), (2, .int .i64 clock), (3, .int .i64 next), (8, .ptr b8 0), (9, .ptr bx 0), (10, .int .i64 seq), (11, .int .i64 i)] E) 94 ⟨6, x.floor, x, .full, .full, rfl, by omega, by omega, hgr.floor.1, hgr.floor.2, hgr, hup, hs, by exact Has.by (by repeat (first | exact trivial | refine ⟨by first | trivial | exact Weak.refl _ | exact Weak.tok _ _ _ | exact Weak.of_eq (congrArg (AV.int _) (by omega)) | exact Weak.nils _ _ (.inr rfl), ?_⟩))⟩ ?_
      clear hup hs hb hgr x; rintro k E s ⟨i, seq, x, ta, tq, rfl, hi6, hi69, hs0, hsn, hgr, hup, hs, hE⟩; refine W.has hE ?_; clear hE
      have hb := hs.b
      have hla := length_aBytes c
      by_cases hlen : ¬ (i + 3 < c.length)
      · have d1 : decide ((i : Int) + 3 < ((aBytes c).length : Int)) = false := decide_eq_false (by rw [hla]; omega)
        refine W.seq ?_; refine W.seq ?_; refine W.regionL (by decide +kernel) rfl ?_; apply r_op; exact rfl; exact rfl; apply a_move; (conv => (lhs; whnf)); apply r_op; exact rfl; exact rfl; apply g_binOp; exact a_add64 rfl rfl (by omega); apply r_op; exact rfl; exact rfl; apply a_move; (conv => (lhs; whnf)); apply r_op; exact rfl; exact rfl; apply g_call; exact a_len_slc rfl; apply r_op
        exact rfl; exact rfl; apply g_binOp; exact a_binI rfl rfl rfl; apply r_op; exact rfl; exact rfl; apply a_move; (conv => (lhs; whnf)); apply q_skip; exact rfl; exact want_f rfl rfl rfl (by assumption); apply q_skip; exact rfl; exact want_f rfl rfl rfl (by assumption); apply r_op; exact rfl; exact rfl; apply g_pick; apply a_pickF rfl (by assumption); (conv => (lhs; whnf))
        (with_reducible refine runs_done ?_); refine W.condF rfl (by exact rfl) ?_; refine W.exit ?_
        exact ⟨x, ta, tq, hgr, hs, by exact Has.by (by repeat (first | exact trivial | refine ⟨by first | trivial | exact Weak.refl _ | exact Weak.tok _ _ _ | exact Weak.of_eq (congrArg (AV.int _) (by omega)) | exact Weak.nils _ _ (.inr rfl), ?_⟩))⟩
      have hlen := Decidable.of_not_not hlen
      have d1 : decide ((i : Int) + 3 < ((aBytes c).length : Int)) = true := decide_eq_true (by rw [hla]; omega)
      by_cases h66 : ¬ (i < 66)
      · have d2 : decide ((i : Int) < 66) = false := decide_eq_false (by omega)
        refine W.seq ?_; refine W.seq ?_; refine W.regionL (by decide +kernel) rfl ?_; apply r_op; exact rfl; exact rfl; apply a_move; (conv => (lhs; whnf)); apply r_op; exact rfl; exact rfl; apply g_binOp; exact a_add64 rfl rfl (by omega); apply r_op; exact rfl; exact rfl; apply a_move; (conv => (lhs; whnf)); apply r_op; exact rfl; exact rfl; apply g_call; exact a_len_slc rfl; apply r_op
        exact rfl; exact rfl; apply g_binOp; exact a_binI rfl rfl rfl; apply r_op; exact rfl; exact rfl; apply a_move; (conv => (lhs; whnf)); apply r_op; exact rfl; exact want_t rfl rfl rfl (by assumption); apply a_move; (conv => (lhs; whnf)); apply r_op; exact rfl; exact want_t rfl rfl rfl (by assumption); apply g_binOp; exact a_binI rfl rfl rfl; apply r_op; exact rfl; exact rfl; apply g_pick
        apply a_pickT rfl (by assumption); (conv => (lhs; whnf)); (with_reducible refine runs_done ?_); refine W.condF rfl (by assumption) ?_; refine W.exit ?_
        exact ⟨x, ta, tq, hgr, hs, by exact Has.by (by repeat (first | exact trivial | refine ⟨by first | trivial | exact Weak.refl _ | exact Weak.tok _ _ _ | exact Weak.of_eq (congrArg (AV.int _) (by omega)) | exact Weak.nils _ _ (.inr rfl), ?_⟩))⟩
      have h66 := Decidable.of_not_not h66
      have d2 : decide ((i : Int) < 66) = true := decide_eq_true (by omega)
      obtain ⟨q0, gi0⟩ : ∃ q : UInt8, c[((i : Int)).toNat]? = some q := ⟨c[i]'(by omega), by simp⟩
      obtain ⟨q1, gi1⟩ : ∃ q : UInt8, c[((i : Int) + 1).toNat]? = some q := ⟨c[i + 1]'(by omega), by rw [show ((i : Int) + 1).toNat = i + 1 by omega]; simp⟩
      obtain ⟨q2, gi2⟩ : ∃ q : UInt8, c[((i : Int) + 2).toNat]? = some q := ⟨c[i + 2]'(by omega), by rw [show ((i : Int) + 2).toNat = i + 2 by omega]; simp⟩
      obtain ⟨q3, gi3⟩ : ∃ q : UInt8, c[((i : Int) + 3).toNat]? = some q := ⟨c[i + 3]'(by omega), by rw [show ((i : Int) + 3).toNat = i + 3 by omega]; simp⟩
      have l0 := q0.toNat_lt
      have l1 := q1.toNat_lt
      have l2 := q2.toNat_lt
      have l3 := q3.toNat_lt
      have w0' : IntKind.i64.wrap ((q0.toNat : Int) % 3) = (q0.toNat : Int) % 3 := IntWalk.i64_in _ (by omega)
      have w1 : IntKind.i64.wrap (q1.toNat : Int) = (q1.toNat : Int) := IntWalk.i64_in _ (by omega)
      have w2 : IntKind.i64.wrap (q2.toNat : Int) = (q2.toNat : Int) := IntWalk.i64_in _ (by omega)
      have w3 : IntKind.i64.wrap (q3.toNat : Int) = (q3.toNat : Int) := IntWalk.i64_in _ (by omega)
      have hmost := hgr.most
      have hlease := hgr.lease
      have hml := Int.emod_nonneg (IntKind.i64.wrap (q1.toNat : Int)) (show x.lease ≠ 0 by omega)
      have hml2 := Int.emod_lt_of_pos (IntKind.i64.wrap (q1.toNat : Int)) (show 0 < x.lease by omega)
      have hmm := Int.emod_nonneg (IntKind.i64.wrap (q3.toNat : Int)) (show x.most ≠ 0 by omega)
      have hmm2 := Int.emod_lt_of_pos (IntKind.i64.wrap (q3.toNat : Int)) (show 0 < x.most by omega)
      have ht60 : CallP Tryd.prog w0 82 [.int .i64 (IntKind.i64.wrap (q1.toNat : Int)), .int .i64 60] (.str (textL q1.toNat 60)) := by
        rw [w1]; exact lawtext_any w0 q1.toNat 60 (by omega) (by omega)
      have hl60 := textL_len q1.toNat 60
      obtain ⟨at_, hat, hatl⟩ : ∃ v : List UInt8, [AV.str [], .str [97, 61, 49], .str [98, 61, 50]][((q2.toNat : Int) % 3).toNat]? = some (.str v) ∧ (v = [] ∨ v = [97, 61, 49] ∨ v = [98, 61, 50]) := by
        have h : q2.toNat % 3 < 3 := Nat.mod_lt _ (by decide)
        rw [show ((q2.toNat : Int) % 3).toNat = q2.toNat % 3 by omega]
        generalize q2.toNat % 3 = q at h
        match q, h with
        | 0, _ => exact ⟨_, rfl, .inl rfl⟩
        | 1, _ => exact ⟨_, rfl, .inr (.inl rfl)⟩
        | 2, _ => exact ⟨_, rfl, .inr (.inr rfl)⟩
      obtain ⟨wy, hwy, hwyl⟩ : ∃ v : List UInt8, [AV.str [110, 97, 99, 107], .str [116, 105, 109, 101]][((q1.toNat : Int) % 2).toNat]? = some (.str v) ∧ (v = [110, 97, 99, 107] ∨ v = [116, 105, 109, 101]) := by
        have h : q1.toNat % 2 < 2 := Nat.mod_lt _ (by decide)
        rw [show ((q1.toNat : Int) % 2).toNat = q1.toNat % 2 by omega]
        generalize q1.toNat % 2 = q at h
        match q, h with
        | 0, _ => exact ⟨_, rfl, .inl rfl⟩
        | 1, _ => exact ⟨_, rfl, .inr rfl⟩
      have hnq := hgr.nqueue
      have hna := hgr.nacks
      refine W.seq ?_; refine W.seq ?_; refine W.regionL (by decide +kernel) rfl ?_; apply r_op; exact rfl; exact rfl; apply a_move; (conv => (lhs; whnf)); apply r_op; exact rfl; exact rfl; apply g_binOp; exact a_add64 rfl rfl (by omega); apply r_op; exact rfl; exact rfl; apply a_move; (conv => (lhs; whnf)); apply r_op; exact rfl; exact rfl; apply g_call; exact a_len_slc rfl; apply r_op; exact rfl
      exact rfl; apply g_binOp; exact a_binI rfl rfl rfl; apply r_op; exact rfl; exact rfl; apply a_move; (conv => (lhs; whnf)); apply r_op; exact rfl; exact want_t rfl rfl rfl (by assumption); apply a_move; (conv => (lhs; whnf)); apply r_op; exact rfl; exact want_t rfl rfl rfl (by assumption); apply g_binOp; exact a_binI rfl rfl rfl; apply r_op; exact rfl; exact rfl; apply g_pick
      apply a_pickT rfl (by assumption); (conv => (lhs; whnf)); (with_reducible refine runs_done ?_); refine W.condT rfl (by assumption) ?_; refine W.skip ?_; show W _ _ _ _ _ _ _; refine W.seq ?_; refine W.block ?_; refine W.seq ?_; refine W.regionL (by decide +kernel) rfl ?_; apply r_op; exact rfl; exact rfl; apply a_move; (conv => (lhs; whnf)); apply r_op; exact rfl; exact rfl; apply a_move
      (conv => (lhs; whnf)); apply r_op; exact rfl; exact rfl; apply a_move; (conv => (lhs; whnf)); apply r_op; exact rfl; exact rfl; apply g_indexAddr; exact a_indexAddr rfl rfl (by decide) (by omega) (by exact get_bytes (by assumption)); apply r_op; exact rfl; exact rfl; apply g_load; exact a_load1 rfl rfl; apply r_op; exact rfl; exact rfl; apply g_binOp; exact a_rem rfl rfl (by omega)
      apply r_op; exact rfl; exact rfl; apply g_convert; exact a_convI rfl; apply r_op; exact rfl; exact rfl; apply g_binOp; exact a_add64 rfl rfl (by omega); apply r_op; exact rfl; exact rfl; apply g_binOp; exact a_add64 rfl rfl (by omega); apply r_op; exact rfl; exact rfl; apply a_assign; (conv => (lhs; whnf)); (with_reducible refine runs_done ?_); refine W.seq ?_; refine W.seq ?_
      refine W.regionL (by decide +kernel) rfl ?_; apply r_op; exact rfl; exact rfl; apply a_move; (conv => (lhs; whnf)); apply r_op; exact rfl; exact rfl; apply a_move; (conv => (lhs; whnf)); apply r_op; exact rfl; exact rfl; apply g_binOp; exact a_binI rfl rfl rfl; (with_reducible refine runs_done ?_); refine W.cond rfl (fun hc => ?_) (fun hc => ?_)
      · refine W.exit ?_
        exact ⟨x, ta, tq, hgr, hs, by exact Has.by (by repeat (first | exact trivial | refine ⟨by first | trivial | exact Weak.refl _ | exact Weak.tok _ _ _ | exact Weak.of_eq (congrArg (AV.int _) (by omega)) | exact Weak.nils _ _ (.inr rfl), ?_⟩))⟩
      have hsq : seq + (1 + IntKind.i64.wrap ((q0.toNat : Int) % 3)) < next := by have := of_decide_eq_false hc; omega
      have hsq0 : 0 ≤ seq + (1 + IntKind.i64.wrap ((q0.toNat : Int) % 3)) := by omega
      have hsq1 : seq < seq + (1 + IntKind.i64.wrap ((q0.toNat : Int) % 3)) := by omega
      generalize seq + (1 + IntKind.i64.wrap ((q0.toNat : Int) % 3)) = seq1 at hsq hsq0 hsq1 ⊢
      clear hc; refine W.skip ?_; show W _ _ _ _ _ _ _; refine W.seq ?_; refine W.meet (fun E s' => s' = s ∧ Has [(0, .slc 1 (aBytes c) t), (2, .int .i64 clock), (3, .int .i64 next), (8, .ptr b8 0), (9, .ptr bx 0), (10, .int .i64 seq1), (11, .int .i64 i)] E) ?_ ?_
      · have hm0 := Moves.refl hs.ma.room
        refine W.seq ?_; refine W.regionL (by decide +kernel) rfl ?_; apply r_op; exact rfl; exact rfl; apply a_move; (conv => (lhs; whnf)); apply r_op; exact rfl; exact rfl; apply a_move; (conv => (lhs; whnf)); apply r_op; exact rfl; exact rfl; apply g_indexAddr; exact a_indexAddr rfl rfl (by decide) (by omega) (by exact get_bytes (by assumption)); apply r_op; exact rfl; exact rfl; apply g_load
        exact a_load1 rfl rfl; apply r_op; exact rfl; exact rfl; apply g_binOp; exact a_binI rfl rfl rfl; apply r_op; exact rfl; exact rfl; apply a_move; (conv => (lhs; whnf)); refine q_split rfl rfl rfl (fun hg => ?_) (fun hg => ?_); apply r_op; exact rfl; exact want_t rfl rfl rfl (by assumption); apply g_fieldAddr; exact a_fieldAddrP rfl (by decide); apply r_load; exact rfl; exact rfl; exact rfl
        decide; exact want_t rfl rfl rfl (by assumption); assumption; exact aLoad1 rfl; apply r_op; exact rfl; exact want_t rfl rfl rfl (by assumption); apply g_call; exact a_len_slc rfl; apply r_op; exact rfl; exact want_t rfl rfl rfl (by assumption); apply g_binOp; exact a_binI rfl rfl rfl; apply r_op; exact rfl; exact rfl; apply g_pick; apply a_pickT rfl (by assumption); (conv => (lhs; whnf))
        (with_reducible refine runs_done ?_); refine W.cond rfl (fun hc => ?_) (fun hc => ?_); refine W.seq ?_; refine W.regionL (by decide +kernel) rfl ?_; apply r_op; exact rfl; exact rfl; apply g_fieldAddr; exact a_fieldAddrP rfl (by decide); apply r_load; exact rfl; exact rfl; exact rfl; decide; exact rfl; assumption; exact aLoad1 rfl; apply r_op; exact rfl; exact rfl; apply a_move
        (conv => (lhs; whnf)); apply r_op; exact rfl; exact rfl; apply g_buildSlice; apply a_build1; (conv => (lhs; whnf)); exact rfl; exact rfl; decide; apply r_append'; exact rfl; exact rfl; decide; infer_instance; exact rfl; exact rfl; exact rfl; exact rfl; exact rfl; assumption
        simp only [length_aBytes, List.length_append, List.length_cons, List.length_nil, List.length_map, List.length_range]
        omega; intro tk1 σ1 hm; apply r_op; exact rfl; exact rfl; apply g_fieldAddr; exact a_fieldAddrP rfl (by decide); apply r_store; exact rfl; exact rfl; exact rfl; decide; infer_instance; exact rfl; apply hb_moves (by assumption); assumption; (conv => (lhs; whnf)); exact rfl; (conv => (lhs; whnf)); exact rfl; exact of_decide_eq_true rfl; exact rfl; (with_reducible refine runs_done ?_)
        refine W.exit ?_; show W _ _ _ _ _ _ _; refine W.regionL (by decide +kernel) rfl ?_; apply r_op; exact rfl; exact rfl; apply a_move; (conv => (lhs; whnf)); apply r_op; exact rfl; exact rfl; apply g_binOp; exact a_add64 rfl rfl (by omega); apply r_op; exact rfl; exact rfl; apply a_assign; (conv => (lhs; whnf)); (with_reducible refine runs_done ?_); rotate_left; refine W.skip ?_; rotate_left
        apply q_skip; exact rfl; exact want_f rfl rfl rfl (by assumption); apply q_skip; exact rfl; exact want_f rfl rfl rfl (by assumption); apply q_skip; exact rfl; exact want_f rfl rfl rfl (by assumption); apply q_skip; exact rfl; exact want_f rfl rfl rfl (by assumption); apply r_op; exact rfl; exact rfl; apply g_pick; apply a_pickF rfl (by assumption); (conv => (lhs; whnf))
        (with_reducible refine runs_done ?_); refine W.condF rfl (by exact rfl) ?_; refine W.skip ?_; rotate_left
        · have hq20 : x.acks.length < 20 := by have := of_decide_eq_true hc; simp at this; omega
          have h9 := hs.acks (x' := { x with acks := x.acks ++ [seq1] }) hne hbx hm
          simp only [subC, List.map_append, List.map_cons, List.map_nil] at h9
          obtain ⟨k1, k2⟩ := hgr.ack hup hsq1 hsq hq20
          exact ⟨100 - (i + 4), by omega, i + 4, seq1, { x with acks := x.acks ++ [seq1] }, tk1, tq, rfl, by omega, by omega, hsq0, hsq, k1, k2, h9, by exact Has.by (by repeat (first | exact trivial | refine ⟨by first | trivial | exact Weak.refl _ | exact Weak.tok _ _ _ | exact Weak.of_eq (congrArg (AV.int _) (by omega)) | exact Weak.nils _ _ (.inr rfl), ?_⟩))⟩
        · exact ⟨rfl, by exact Has.by (by repeat (first | exact trivial | refine ⟨by first | trivial | exact Weak.refl _ | exact Weak.tok _ _ _ | exact Weak.of_eq (congrArg (AV.int _) (by omega)) | exact Weak.nils _ _ (.inr rfl), ?_⟩))⟩
        · exact ⟨rfl, by exact Has.by (by repeat (first | exact trivial | refine ⟨by first | trivial | exact Weak.refl _ | exact Weak.tok _ _ _ | exact Weak.of_eq (congrArg (AV.int _) (by omega)) | exact Weak.nils _ _ (.inr rfl), ?_⟩))⟩
      · rintro E s' ⟨rfl, hE⟩
        refine W.has hE ?_; clear hE; refine W.seq ?_; refine W.seq ?_; refine W.regionL (by decide +kernel) rfl ?_; apply r_op; exact rfl; exact rfl; apply g_fieldAddr; exact a_fieldAddrP rfl (by decide); apply r_load; exact rfl; exact rfl; exact rfl; decide; exact rfl; assumption; exact aLoad1 rfl; apply r_op; exact rfl; exact rfl; apply g_call; exact a_len_slc rfl; apply r_op; exact rfl
        exact rfl; apply g_binOp; exact a_binI rfl rfl rfl; (with_reducible refine runs_done ?_); refine W.cond rfl (fun hc => ?_) (fun hc => ?_)
        · refine W.exit ?_
          exact ⟨x, ta, tq, hgr, hs, by exact Has.by (by repeat (first | exact trivial | refine ⟨by first | trivial | exact Weak.refl _ | exact Weak.tok _ _ _ | exact Weak.of_eq (congrArg (AV.int _) (by omega)) | exact Weak.nils _ _ (.inr rfl), ?_⟩))⟩
        have hq30 : x.queue.length < 30 := by have := of_decide_eq_false hc; simp at this; omega
        clear hc; refine W.skip ?_; show W _ _ _ _ _ _ _; refine W.seq ?_; refine W.regionDK 0 [] Ty.mixed (by decide +kernel) (by decide +kernel) rfl ?_; apply r_op; exact rfl; exact rfl; apply a_move; (conv => (lhs; whnf)); apply r_op; exact rfl; exact rfl; apply a_move; (conv => (lhs; whnf)); apply r_op; exact rfl; exact rfl; apply a_move; (conv => (lhs; whnf)); apply r_op; exact rfl; exact rfl
        apply g_binOp; exact a_add64 rfl rfl (by omega); apply r_op; exact rfl; exact rfl; apply g_indexAddr; exact a_indexAddr rfl rfl (by decide) (by omega) (by exact get_bytes (by assumption)); apply r_op; exact rfl; exact rfl; apply g_load; exact a_load1 rfl rfl; apply r_op; exact rfl; exact rfl; apply g_convert; exact a_convI rfl; apply r_callP; exact rfl; exact rfl; exact rfl; exact rfl
        exact rfl; infer_instance; exact ht60; apply r_op; exact rfl; exact rfl; apply g_buildSlice; apply a_buildN; apply EvP.cons (by (conv => (lhs; whnf))); apply EvP.cons (by (conv => (lhs; whnf))); apply EvP.cons (by (conv => (lhs; whnf))); exact EvP.nil; (conv => (lhs; whnf)); exact rfl; exact rfl; decide; apply r_op; exact rfl; exact rfl; apply a_move; (conv => (lhs; whnf)); apply r_op
        exact rfl; exact rfl; apply a_move; (conv => (lhs; whnf)); apply r_op; exact rfl; exact rfl; apply g_binOp; exact a_add64 rfl rfl (by omega); apply r_op; exact rfl; exact rfl; apply g_indexAddr; exact a_indexAddr rfl rfl (by decide) (by omega) (by exact get_bytes (by assumption)); apply r_op; exact rfl; exact rfl; apply g_load; exact a_load1 rfl rfl; apply r_op; exact rfl; exact rfl
        apply g_binOp; exact a_rem rfl rfl (by omega); apply r_op; exact rfl; exact rfl; apply g_indexAddr; exact a_indexAddr rfl rfl (by decide) (by omega) (by assumption); apply r_op; exact rfl; exact rfl; apply g_load; exact a_load1 rfl rfl; apply r_op; exact rfl; exact rfl; apply g_build; apply a_build; apply EvP.cons (by (conv => (lhs; whnf))); apply EvP.cons (by (conv => (lhs; whnf)))
        apply EvP.cons (by (conv => (lhs; whnf))); exact EvP.nil
        simp only [aFill, List.getElem?_cons_zero, List.getElem?_cons_succ, AV.cells, List.length_cons, List.length_nil, AV.flat, AV.one, setL, List.set_cons_zero, List.set_cons_succ, Nat.reduceAdd, Nat.reduceLeDiff, Nat.reduceMul, and_self, if_true, ↓reduceIte, Nat.zero_add, Nat.le_refl, List.range, List.range.loop, List.map_cons, List.map_nil, Nat.zero_le]
        rfl; apply r_alloc; exact rfl; exact rfl; decide; exact rfl; (conv => (lhs; whnf)); intro b1 hb1; apply r_store; exact rfl; exact rfl; exact rfl; decide; infer_instance; exact rfl; exact setBox_same; (conv => (lhs; whnf)); exact rfl; (conv => (lhs; whnf)); exact rfl; exact of_decide_eq_true rfl; exact setL_whole rfl; refine runs_done ?_; show W _ _ _ _ _ _ _
        generalize b1 = b12 at hb1 ⊢
        have hb12 : s'.box b12 = none := hb1
        clear hb1
        have hσ12 := none_moves hs.ma hb12
        have h812 : b8 ≠ b12 := (ne_some hs.r hb12).symm
        have hx12 : bx ≠ b12 := (ne_some hs.b hb12).symm
        have h12x : b12 ≠ bx := hx12.symm
        refine W.seq ?_
        refine W.meet (fun E s => ∃ m : Msg, (m.seq = seq1 ∧ m.body.length ≤ 60 ∧ (m.attr = [] ∨ m.attr = [97, 61, 49] ∨ m.attr = [98, 61, 50]) ∧ (0 ≤ m.prio ∧ m.prio ≤ 9) ∧ m.tries = 0 ∧ m.until_ = 0 ∧ m.dead = false ∧ m.why = []) ∧ s = s'.setBox b12 (msgC m) ∧ Has [(0, .slc 1 (aBytes c) t), (2, .int .i64 clock), (3, .int .i64 next), (8, .ptr b8 0), (9, .ptr bx 0), (10, .int .i64 seq1), (11, .int .i64 i), (12, .ptr b12 0)] E) ?_ ?_
        · refine W.seq ?_
          refine W.regionL (by decide +kernel) rfl ?_; apply r_op; exact rfl; exact rfl; apply a_move; (conv => (lhs; whnf)); apply r_op; exact rfl; exact rfl; apply a_move; (conv => (lhs; whnf)); apply r_op; exact rfl; exact rfl; apply g_binOp; exact a_add64 rfl rfl (by omega); apply r_op; exact rfl; exact rfl; apply g_indexAddr
          exact a_indexAddr rfl rfl (by decide) (by omega) (by exact get_bytes (by assumption)); apply r_op; exact rfl; exact rfl; apply g_load; exact a_load1 rfl rfl; apply r_op; exact rfl; exact rfl; apply g_binOp; exact a_binI rfl rfl rfl; (with_reducible refine runs_done ?_); refine W.cond rfl (fun hc => ?_) (fun hc => ?_); refine W.regionL (by decide +kernel) rfl ?_; apply r_op; exact rfl
          exact rfl; apply a_move; (conv => (lhs; whnf)); apply r_op; exact rfl; exact rfl; apply a_move; (conv => (lhs; whnf)); apply r_op; exact rfl; exact rfl; apply g_binOp; exact a_add64 rfl rfl (by omega); apply r_op; exact rfl; exact rfl; apply g_indexAddr; exact a_indexAddr rfl rfl (by decide) (by omega) (by exact get_bytes (by assumption)); apply r_op; exact rfl; exact rfl; apply g_load
          exact a_load1 rfl rfl; apply r_op; exact rfl; exact rfl; apply g_convert; exact a_convI rfl; apply r_op; exact rfl; exact rfl; apply g_binOp; exact a_rem rfl rfl (by omega); apply r_op; exact rfl; exact rfl; apply g_fieldAddr; exact a_fieldAddrP rfl (by decide); apply r_store; exact rfl; exact rfl; exact rfl; decide; infer_instance; exact rfl; exact setBox_same; (conv => (lhs; whnf))
          exact rfl; (conv => (lhs; whnf)); exact rfl; exact of_decide_eq_true rfl; exact rfl; (with_reducible refine runs_done ?_); rotate_left; refine W.skip ?_; rotate_left
          · exact ⟨⟨seq1, textL q1.toNat 60, at_, 0, 0, false, [], IntKind.i64.wrap (q2.toNat : Int) % 10⟩, ⟨rfl, hl60, hatl, by constructor <;> (show _ ≤ _; dsimp only; omega), rfl, rfl, rfl, rfl⟩, by simp only [setBox_setBox]; rfl, by exact Has.by (by repeat (first | exact trivial | refine ⟨by first | trivial | exact Weak.refl _ | exact Weak.tok _ _ _ | exact Weak.of_eq (congrArg (AV.int _) (by omega)) | exact Weak.nils _ _ (.inr rfl), ?_⟩))⟩
          · exact ⟨⟨seq1, textL q1.toNat 60, at_, 0, 0, false, [], 0⟩, ⟨rfl, hl60, hatl, (show (0 : Int) ≤ 0 ∧ (0 : Int) ≤ 9 from ⟨by decide, by decide⟩), rfl, rfl, rfl, rfl⟩, by simp only [setBox_setBox]; rfl, by exact Has.by (by repeat (first | exact trivial | refine ⟨by first | trivial | exact Weak.refl _ | exact Weak.tok _ _ _ | exact Weak.of_eq (congrArg (AV.int _) (by omega)) | exact Weak.nils _ _ (.inr rfl), ?_⟩))⟩
        · rintro E s2 ⟨m, ⟨ms, mb, ma, mp, mt, mu, md, mw⟩, rfl, hE⟩
          refine W.has hE ?_; clear hE; refine W.seq ?_; refine W.meet (fun E s => ∃ m : Msg, (m.seq = seq1 ∧ MsgOk clock x.most x.lease m) ∧ s = s'.setBox b12 (msgC m) ∧ Has [(0, .slc 1 (aBytes c) t), (2, .int .i64 clock), (3, .int .i64 next), (8, .ptr b8 0), (9, .ptr bx 0), (10, .int .i64 seq1), (11, .int .i64 i), (12, .ptr b12 0)] E) ?_ ?_
          · refine W.seq ?_
            refine W.regionL (by decide +kernel) rfl ?_; apply r_op; exact rfl; exact rfl; apply a_move; (conv => (lhs; whnf)); apply r_op; exact rfl; exact rfl; apply a_move; (conv => (lhs; whnf)); apply r_op; exact rfl; exact rfl; apply g_binOp; exact a_add64 rfl rfl (by omega); apply r_op; exact rfl; exact rfl; apply g_indexAddr
            exact a_indexAddr rfl rfl (by decide) (by omega) (by exact get_bytes (by assumption)); apply r_op; exact rfl; exact rfl; apply g_load; exact a_load1 rfl rfl; apply r_op; exact rfl; exact rfl; apply g_binOp; exact a_rem rfl rfl (by omega); (with_reducible refine runs_done ?_); refine W.block ?_; refine W.seq ?_; refine W.regionL (by decide +kernel) rfl ?_; apply r_op; exact rfl; exact rfl
            apply g_binOp; exact a_binI rfl rfl rfl; apply r_op; exact rfl; exact rfl; apply a_assign; (conv => (lhs; whnf)); (with_reducible refine runs_done ?_); refine W.cond rfl (fun hc => ?_) (fun hc => ?_); refine W.regionDK 1 [] Ty.mixed (by decide +kernel) (by decide +kernel) rfl ?_; apply r_op; exact rfl; exact rfl; apply a_move; (conv => (lhs; whnf)); apply r_op; exact rfl; exact rfl
            apply a_move; (conv => (lhs; whnf)); apply r_op; exact rfl; exact rfl; apply g_binOp; exact a_add64 rfl rfl (by omega); apply r_op; exact rfl; exact rfl; apply g_indexAddr; exact a_indexAddr rfl rfl (by decide) (by omega) (by exact get_bytes (by assumption)); apply r_op; exact rfl; exact rfl; apply g_load; exact a_load1 rfl rfl; apply r_op; exact rfl; exact rfl; apply g_convert
            exact a_convI rfl; apply r_op; exact rfl; exact rfl; apply g_fieldAddr; exact a_fieldAddrP rfl (by decide); apply r_load; exact rfl; exact rfl; exact rfl; decide; exact rfl; apply hb_ne (by assumption); assumption; exact aLoad1 rfl; apply r_op; exact rfl; exact rfl; apply g_binOp; exact a_rem rfl rfl (by omega); apply r_op; exact rfl; exact rfl; apply g_fieldAddr
            exact a_fieldAddrP rfl (by decide); apply r_store; exact rfl; exact rfl; exact rfl; decide; infer_instance; exact rfl; exact setBox_same; (conv => (lhs; whnf)); exact rfl; (conv => (lhs; whnf)); exact rfl; exact of_decide_eq_true rfl; exact rfl; (with_reducible refine runs_done ?_); rotate_left; refine W.seq ?_; refine W.regionL (by decide +kernel) rfl ?_; apply r_op; exact rfl; exact rfl
            apply g_binOp; exact a_binI rfl rfl rfl; apply r_op; exact rfl; exact rfl; apply a_assign; (conv => (lhs; whnf)); (with_reducible refine runs_done ?_); refine W.cond rfl (fun hc => ?_) (fun hc => ?_); refine W.seq ?_; refine W.regionDK 1 [] Ty.mixed (by decide +kernel) (by decide +kernel) rfl ?_; apply r_op; exact rfl; exact rfl; apply a_move; (conv => (lhs; whnf)); apply r_op; exact rfl
            exact rfl; apply a_move; (conv => (lhs; whnf)); apply r_op; exact rfl; exact rfl; apply g_binOp; exact a_add64 rfl rfl (by omega); apply r_op; exact rfl; exact rfl; apply g_indexAddr; exact a_indexAddr rfl rfl (by decide) (by omega) (by exact get_bytes (by assumption)); apply r_op; exact rfl; exact rfl; apply g_load; exact a_load1 rfl rfl; apply r_op; exact rfl; exact rfl
            apply g_convert; exact a_convI rfl; apply r_op; exact rfl; exact rfl; apply g_fieldAddr; exact a_fieldAddrP rfl (by decide); apply r_load; exact rfl; exact rfl; exact rfl; decide; exact rfl; apply hb_ne (by assumption); assumption; exact aLoad1 rfl; apply r_op; exact rfl; exact rfl; apply g_binOp; exact a_rem rfl rfl (by omega); apply r_op; exact rfl; exact rfl; apply g_binOp
            exact a_add64 rfl rfl (by omega); apply r_op; exact rfl; exact rfl; apply g_fieldAddr; exact a_fieldAddrP rfl (by decide); apply r_store; exact rfl; exact rfl; exact rfl; decide; infer_instance; exact rfl; exact setBox_same; (conv => (lhs; whnf)); exact rfl; (conv => (lhs; whnf)); exact rfl; exact of_decide_eq_true rfl; exact rfl; (with_reducible refine runs_done ?_)
            refine W.regionDK 1 [] Ty.mixed (by decide +kernel) (by decide +kernel) rfl ?_; apply r_op; exact rfl; exact rfl; apply a_move; (conv => (lhs; whnf)); apply r_op; exact rfl; exact rfl; apply g_binOp; exact a_add64 rfl rfl (by omega); apply r_op; exact rfl; exact rfl; apply a_move; (conv => (lhs; whnf)); apply r_op; exact rfl; exact rfl; apply a_move; (conv => (lhs; whnf)); apply r_op
            exact rfl; exact rfl; apply g_binOp; exact a_add64 rfl rfl (by omega); apply r_op; exact rfl; exact rfl; apply g_indexAddr; exact a_indexAddr rfl rfl (by decide) (by omega) (by exact get_bytes (by assumption)); apply r_op; exact rfl; exact rfl; apply g_load; exact a_load1 rfl rfl; apply r_op; exact rfl; exact rfl; apply g_convert; exact a_convI rfl; apply r_op; exact rfl; exact rfl
            apply g_fieldAddr; exact a_fieldAddrP rfl (by decide); apply r_load; exact rfl; exact rfl; exact rfl; decide; exact rfl; apply hb_ne (by assumption); apply hb_ne (by assumption); assumption; exact aLoad1 rfl; apply r_op; exact rfl; exact rfl; apply g_binOp; exact a_rem rfl rfl (by omega); apply r_op; exact rfl; exact rfl; apply g_binOp; exact a_add64 rfl rfl (by omega); apply r_op
            exact rfl; exact rfl; apply g_fieldAddr; exact a_fieldAddrP rfl (by decide); apply r_store; exact rfl; exact rfl; exact rfl; decide; infer_instance; exact rfl; exact setBox_same; (conv => (lhs; whnf)); exact rfl; (conv => (lhs; whnf)); exact rfl; exact of_decide_eq_true rfl; exact rfl; (with_reducible refine runs_done ?_); rotate_left; refine W.seq ?_
            refine W.regionL (by decide +kernel) rfl ?_; apply r_op; exact rfl; exact rfl; apply g_binOp; exact a_binI rfl rfl rfl; apply r_op; exact rfl; exact rfl; apply a_assign; (conv => (lhs; whnf)); (with_reducible refine runs_done ?_); refine W.cond rfl (fun hc => ?_) (fun hc => ?_); refine W.seq ?_; refine W.regionL (by decide +kernel) rfl ?_; apply r_op; exact rfl; exact rfl
            apply g_fieldAddr; exact a_fieldAddrP rfl (by decide); apply r_store; exact rfl; exact rfl; exact rfl; decide; infer_instance; exact rfl; exact setBox_same; (conv => (lhs; whnf)); exact rfl; (conv => (lhs; whnf)); exact rfl; exact of_decide_eq_true rfl; exact rfl; (with_reducible refine runs_done ?_); refine W.seq ?_; refine W.regionL (by decide +kernel) rfl ?_; apply r_op; exact rfl
            exact rfl; apply g_fieldAddr; exact a_fieldAddrP rfl (by decide); apply r_load; exact rfl; exact rfl; exact rfl; decide; exact rfl; apply hb_ne (by assumption); apply hb_ne (by assumption); assumption; exact aLoad1 rfl; apply r_op; exact rfl; exact rfl; apply g_fieldAddr; exact a_fieldAddrP rfl (by decide); apply r_store; exact rfl; exact rfl; exact rfl; decide; infer_instance
            exact rfl; exact setBox_same; (conv => (lhs; whnf)); exact rfl; (conv => (lhs; whnf)); exact rfl; exact of_decide_eq_true rfl; exact rfl; (with_reducible refine runs_done ?_); refine W.regionL (by decide +kernel) rfl ?_; apply r_op; exact rfl; exact rfl; apply g_buildSlice; apply a_buildN; apply EvP.cons (by (conv => (lhs; whnf))); apply EvP.cons (by (conv => (lhs; whnf))); exact EvP.nil
            (conv => (lhs; whnf)); exact rfl; exact rfl; decide; apply r_op; exact rfl; exact rfl; apply a_move; (conv => (lhs; whnf)); apply r_op; exact rfl; exact rfl; apply a_move; (conv => (lhs; whnf)); apply r_op; exact rfl; exact rfl; apply g_binOp; exact a_add64 rfl rfl (by omega); apply r_op; exact rfl; exact rfl; apply g_indexAddr
            exact a_indexAddr rfl rfl (by decide) (by omega) (by exact get_bytes (by assumption)); apply r_op; exact rfl; exact rfl; apply g_load; exact a_load1 rfl rfl; apply r_op; exact rfl; exact rfl; apply g_binOp; exact a_rem rfl rfl (by omega); apply r_op; exact rfl; exact rfl; apply g_indexAddr; exact a_indexAddr rfl rfl (by decide) (by omega) (by assumption); apply r_op; exact rfl
            exact rfl; apply g_load; exact a_load1 rfl rfl; apply r_op; exact rfl; exact rfl; apply g_fieldAddr; exact a_fieldAddrP rfl (by decide); apply r_store; exact rfl; exact rfl; exact rfl; decide; infer_instance; exact rfl; exact setBox_same; (conv => (lhs; whnf)); exact rfl; (conv => (lhs; whnf)); exact rfl; exact of_decide_eq_true rfl; exact rfl; (with_reducible refine runs_done ?_)
            rotate_left; refine W.skip ?_; rotate_left
            · exact ⟨{ m with tries := IntKind.i64.wrap (q3.toNat : Int) % x.most }, ⟨ms, mb, ma, mp, .inl ⟨md, mw, mu, hmm, hmm2⟩⟩, by simp only [setBox_setBox]; rfl, by exact Has.by (by repeat (first | exact trivial | refine ⟨by first | trivial | exact Weak.refl _ | exact Weak.tok _ _ _ | exact Weak.of_eq (congrArg (AV.int _) (by omega)) | exact Weak.nils _ _ (.inr rfl), ?_⟩))⟩
            · exact ⟨{ m with tries := 1 + IntKind.i64.wrap (q3.toNat : Int) % x.most, until_ := (clock : Int) + 1 + IntKind.i64.wrap (q1.toNat : Int) % x.lease }, ⟨ms, mb, ma, mp, .inr (.inl ⟨md, mw, by constructor <;> (dsimp only; omega), by constructor <;> (dsimp only; omega)⟩)⟩, by simp only [setBox_setBox]; rfl, by exact Has.by (by repeat (first | exact trivial | refine ⟨by first | trivial | exact Weak.refl _ | exact Weak.tok _ _ _ | exact Weak.of_eq (congrArg (AV.int _) (by omega)) | exact Weak.nils _ _ (.inr rfl), ?_⟩))⟩
            · exact ⟨{ m with dead := true, tries := x.most, why := wy }, ⟨ms, mb, ma, mp, .inr (.inr ⟨rfl, mu, rfl, hwyl⟩)⟩, by simp only [setBox_setBox]; rfl, by exact Has.by (by repeat (first | exact trivial | refine ⟨by first | trivial | exact Weak.refl _ | exact Weak.tok _ _ _ | exact Weak.of_eq (congrArg (AV.int _) (by omega)) | exact Weak.nils _ _ (.inr rfl), ?_⟩))⟩
            · exact ⟨m, ⟨ms, mb, ma, mp, .inl ⟨md, mw, mu, by omega, by omega⟩⟩, rfl, by exact Has.by (by repeat (first | exact trivial | refine ⟨by first | trivial | exact Weak.refl _ | exact Weak.tok _ _ _ | exact Weak.of_eq (congrArg (AV.int _) (by omega)) | exact Weak.nils _ _ (.inr rfl), ?_⟩))⟩
          · rintro E s3 ⟨m, ⟨ms, hma⟩, rfl, hE⟩
            refine W.has hE ?_; clear hE
            have hs3 := hs.other (cs := msgC m) h812 hx12 hσ12
            have hb3 := hs3.b
            have hm0 := Moves.refl hs3.mq.room
            refine W.regionL (by decide +kernel) rfl ?_; apply r_op; exact rfl; exact rfl; apply g_fieldAddr; exact a_fieldAddrP rfl (by decide); apply r_load; exact rfl; exact rfl; exact rfl; decide; exact rfl; assumption; exact aLoad1 rfl; apply r_load; exact rfl; exact rfl; exact rfl; decide; exact rfl; exact setBox_same; exact aLoadA rfl (by rfl) rfl; apply r_op; exact rfl; exact rfl
            apply g_buildSlice; apply a_build1; (conv => (lhs; whnf)); exact rfl; exact rfl; decide; apply r_append'; exact rfl; exact rfl; decide; infer_instance; exact rfl; exact rfl; exact rfl; exact rfl; exact rfl; assumption
            simp only [length_aBytes, List.length_append, List.length_cons, List.length_nil, List.length_map, List.length_range]
            omega; intro tk1 σ1 hm; apply r_op; exact rfl; exact rfl; apply g_fieldAddr; exact a_fieldAddrP rfl (by decide); apply r_store; exact rfl; exact rfl; exact rfl; decide; infer_instance; exact rfl; apply hb_moves (by assumption); assumption; (conv => (lhs; whnf)); exact rfl; (conv => (lhs; whnf)); exact rfl; exact of_decide_eq_true rfl; exact rfl; (with_reducible refine runs_done ?_)
            refine W.regionL (by decide +kernel) rfl ?_; apply r_op; exact rfl; exact rfl; apply a_move; (conv => (lhs; whnf)); apply r_op; exact rfl; exact rfl; apply g_binOp; exact a_add64 rfl rfl (by omega); apply r_op; exact rfl; exact rfl; apply a_assign; (conv => (lhs; whnf)); (with_reducible refine runs_done ?_)
            have h9 := hs3.queue (x' := { x with queue := x.queue ++ [m] }) hne hbx hm
            simp only [subC, List.map_append, List.map_cons, List.map_nil] at h9
            obtain ⟨k1, k2⟩ := hgr.msg hup (by rw [ms]; exact hsq1) (by rw [ms]; exact hsq) hq30 hma
            rw [ms] at k2
            exact ⟨100 - (i + 4), by omega, i + 4, seq1, { x with queue := x.queue ++ [m] }, ta, tk1, rfl, by omega, by omega, hsq0, hsq, k1, k2, h9, by exact Has.by (by repeat (first | exact trivial | refine ⟨by first | trivial | exact Weak.refl _ | exact Weak.tok _ _ _ | exact Weak.of_eq (congrArg (AV.int _) (by omega)) | exact Weak.nils _ _ (.inr rfl), ?_⟩))⟩
    · rintro E s ⟨x, ta, tq, hgr, hs, hE⟩
      refine W.has hE ?_; clear hE
      have hb := hs.b
      have hr := hs.r
      refine W.seq ?_; refine W.regionL (by decide +kernel) rfl ?_; apply r_load; exact rfl; exact rfl; exact rfl; decide; exact rfl; assumption; exact aLoadA rfl (by rfl) rfl; apply r_store; exact rfl; exact rfl; exact rfl; decide; infer_instance; exact rfl; assumption; (conv => (lhs; whnf)); exact rfl; (conv => (lhs; whnf)); exact rfl; exact of_decide_eq_true rfl; exact setL_whole rfl
      (with_reducible refine runs_done ?_); refine W.ret ?_; show Q Exit.ret _ _; refine post_le (σ' := σ) hQ (by apply res_cell; exact rfl; exact setBox_same; exact aLoadA rfl (by rfl) rfl; exact res_nil) rfl (weak_sub x ta tq) (le_setBox hs.ma.le hb8) ?_ (.inl rfl)
      exact ⟨x, rfl, hgr, rfl⟩
end Go.Proofs.YtkbmkhhcppfcnaaDoor
end
section
set_option linter.unusedVariables false
set_option linter.unusedSimpArgs false
set_option maxRecDepth 100000
set_option maxHeartbeats 1000000
namespace Go.Proofs.YtkbmkhhcppfcnaaDoor
open Go.Al Go.RowKit
theorem good_x0 : Good2 x0 := ⟨by decide, by decide, by decide, by decide, by decide, ⟨by decide, by decide⟩, ⟨by decide, by decide⟩, ⟨by decide, by decide⟩, by decide, trivial, by simp [x0], trivial, by simp [x0], by simp [x0]⟩
theorem enc2_x0 : enc2 x0 = [s2 x0] := by simp [enc2, ack2, note2, x0]
theorem dec2_nil : dec2 [] = (sub0, 11) := by
  have : enc2 (fin2 []) ≠ [] := by simp [enc2]
  rw [dec2, if_neg fun h => this h.2]
theorem known2_any (w0 : World) (hL : Laid w0) : CallP Tryd.prog w0 32 [] (.bool true) := by
  have hen : CallP Tryd.prog w0 29 [xA] (.slc 2 [eRow (s2 x0)] .no) := fun σ => by
    have := enc2_p w0 hL x0 fits_x0 σ
    rw [enc2_x0] at this
    exact CallW.weak1 [] [] weak_x0 this
  have ht : tot [s2 x0] ≤ 100000 := by
    have h1 := txt_len x0.name
    have h2 := txt_len x0.topic
    have h3 := txt_len x0.want
    have h4 := num_len x0.lease
    have h5 := num_len x0.most
    have h6 := num_len x0.floor
    have h7 : x0.name.length + x0.topic.length + x0.want.length ≤ 10 := by decide
    simp [tot, s2, sB2]; omega
  have hdec : CallP Tryd.prog w0 30 [.slc 2 [eRow (s2 x0)] .no] (.tup [eSub x0, .int .u16 0]) := by
    have := dec2_p w0 hL [s2 x0] .no ht (by simp [s2, rkey_length])
    rw [← enc2_x0, dec2_back good_x0, enc2_x0] at this
    exact this
  have hdn : CallP Tryd.prog w0 30 [.nils] (.tup [eSub sub0, .int .u16 11]) := fun σ => by
    have := dec2_p w0 hL [] .no (by simp [tot]) (by simp)
    rw [dec2_nil] at this
    exact CallW.weak1 [] [] (.nils 2 .no (.inl rfl)) (this σ)
  clear ht
  generalize s2 x0 = r at hen hdec
  refine CallP.x Ty.tok Ty.mixed Tryd.func32 rfl Tryd.ntmps32 rfl (by simp) (by decide +kernel) fun σ => ?_
  (conv => whnf); refine SCall.p (by exact hen) ?_; (conv => whnf); refine SCall.p (by exact hdec) ?_; (conv => whnf); intro b1 hb1; (conv => whnf); refine SStore.on 0 rfl ?_; (conv => whnf); refine SCall.p (by exact hdn) ?_; (conv => whnf); intro b1 hb1; (conv => whnf); refine SStore.on 0 rfl ?_; (conv => whnf); refine SCond.y (by exact rfl) ?_; (conv => whnf); refine SCond.y (by exact rfl) ?_
  (conv => whnf); refine SPick.y (by exact rfl) ?_; (conv => whnf); refine SCond.y (by exact rfl) ?_; (conv => whnf); refine SCond.y (by exact rfl) ?_; (conv => whnf); refine SLoad.on 1 rfl ?_; (conv => whnf); refine SCond.y (by exact rfl) ?_; (conv => whnf); refine SPick.y (by exact rfl) ?_; (conv => whnf); refine SCond.y (by exact rfl) ?_; (conv => whnf); refine SCond.y (by exact rfl) ?_
  (conv => whnf); refine SLoad.on 1 rfl ?_; (conv => whnf); refine SCond.y (by exact rfl) ?_; (conv => whnf); refine SPick.y (by exact rfl) ?_; (conv => whnf); refine SCond.y (by exact rfl) ?_; (conv => whnf); refine SCond.y (by exact rfl) ?_; (conv => whnf); refine SPick.y (by exact rfl) ?_; (conv => whnf)
  exact .p (by repeat (first | assumption | exact .refl _ | refine le_new2 ?_ (by assumption) | refine le_new ?_ (by assumption) | refine le_setBox ?_ (by first | assumption | exact none_in (by assumption) | exact none_in (none_in (by assumption)) | exact none_in (none_in (none_in (by assumption))) | fail) | exact Moves.le (by assumption) | refine .trans ?_ (Moves.le (by assumption)))) rfl
theorem lawsub2_any (w0 : World) (c : List UInt8) (t : Tok) (k : UInt8) (hc : c.length ≤ 9223372036854775807) (σ : St) : CallW Tryd.prog w0 28 [.slc 1 (aBytes c) t, .int .u8 k.toNat] σ (fun r s => ∃ x, r = eSub x ∧ Grown (1 + k.toNat) 9 (2 + k.toNat) x ∧ s = σ) := by
  have hk := k.toNat_lt
  have hs : ∀ σ, CallW Tryd.prog w0 33 [.slc 1 (aBytes c) t, .int .i64 (1 + (k.toNat : Int)), .int .i64 9, .int .i64 (2 + (k.toNat : Int))] σ (fun r s => ∃ x, r = eSub x ∧ Grown (1 + k.toNat) 9 (2 + k.toNat) x ∧ s = σ) := fun σ =>
    sub_any w0 c t (1 + k.toNat) 9 (2 + k.toNat) hc (by omega) (by omega) ⟨by omega, by omega⟩ σ
  refine CallW.x Ty.tok Ty.mixed Tryd.func28 rfl Tryd.ntmps28 rfl (by simp) (by decide +kernel) (.nil σ) ?_; (conv => whnf); intro b1 hb1; (conv => whnf); refine ⟨_, IntWalk.i64_in _ (by omega), ?_⟩; (conv => whnf); refine ⟨_, IntWalk.i64_in _ (by omega), ?_⟩; (conv => whnf); refine ⟨_, IntWalk.i64_in _ (by omega), ?_⟩; (conv => whnf)
  refine ⟨_, IntWalk.i64_in _ (by omega), ?_⟩; (conv => whnf); refine SCall.w (by exact hs _) rfl ?_; rintro r s ⟨x1, rfl, hx1, hs1⟩ hB
  replace hs1 := hs1.symm
  subst hs1
  refine ⟨_, hB, ?_⟩; clear hB; (conv => whnf); refine SStore.on 0 rfl ?_; (conv => whnf); refine SLoad.on 0 rfl ?_; (conv => whnf)
  exact ⟨fun _ => ⟨_, σ, .refl _, by repeat (first | assumption | exact .refl _ | refine le_new2 ?_ (by assumption) | refine le_new ?_ (by assumption) | refine le_setBox ?_ (by first | assumption | exact none_in (by assumption) | exact none_in (none_in (by assumption)) | exact none_in (none_in (none_in (by assumption))) | fail) | exact Moves.le (by assumption) | refine .trans ?_ (Moves.le (by assumption))), x1, rfl, hx1, rfl⟩⟩
end Go.Proofs.YtkbmkhhcppfcnaaDoor
end
section
set_option linter.unusedVariables false
set_option linter.unusedSimpArgs false
set_option maxRecDepth 100000
set_option maxHeartbeats 4000000
namespace Go.Proofs.YtkbmkhhcppfcnaaDoor
open Go.Al Go.RowKit
instance : FlatEq Tryd.prog 46 := ⟨⟨_, Tryd.underlying46⟩, by kernel_rfl, by kernel_rfl⟩
theorem flat_msg (m : Msg) {fs : List Field} (h : Tryd.prog.underlying 46 = some (.struct fs.toArray)) : flatFrom Tryd.prog 0 fs (eMsg m).cells = true := by
  rw [Tryd.underlying46] at h
  simp only [Option.some.injEq, TypeDesc.struct.injEq] at h
  have h := congrArg Array.toList h
  simp only [List.toList_toArray] at h
  subst h
  simp [flatFrom, eMsg, AV.cells, cellD, Tryd.underlying3, Tryd.underlying9, Tryd.underlying4]
theorem eq_msg (m n : Msg) : eqCells (eMsg m).cells (eMsg n).cells = some (decide (m = n)) := by
  simp only [eMsg, AV.cells, eqCells, eqCell, if_true]
  obtain ⟨a1, a2, a3, a4, a5, a6, a7, a8⟩ := m
  obtain ⟨b1, b2, b3, b4, b5, b6, b7, b8⟩ := n
  congr 1
  rw [Bool.eq_iff_iff]
  simp only [Bool.and_eq_true, beq_iff_eq, decide_eq_true_eq, Msg.mk.injEq, Bool.and_true, and_true]
theorem sameMsgs_any (w0 : World) (a b : List Msg) (ta tb : Tok) (ha : a.length ≤ 1000000000) : CallP Tryd.prog w0 50 [.slc 8 (a.map eMsg) ta, .slc 8 (b.map eMsg) tb] (.bool (decide (a = b))) := by
  refine CallP.start Tryd.func50 rfl Tryd.ntmps50 (by simp) fun σ Q hQ => ?_
  refine W.seq ?_; refine W.regionL (by decide +kernel) rfl ?_; apply r_op; exact rfl; exact rfl; apply a_assign; (conv => (lhs; whnf)); (with_reducible refine runs_done ?_); refine W.seq ?_; refine W.seq ?_; refine W.regionL (by decide +kernel) rfl ?_; apply r_op; exact rfl; exact rfl; apply a_move; (conv => (lhs; whnf)); apply r_op; exact rfl; exact rfl; apply g_call; exact a_len_slc rfl
  apply r_op; exact rfl; exact rfl; apply a_move; (conv => (lhs; whnf)); apply r_op; exact rfl; exact rfl; apply g_call; exact a_len_slc rfl; apply r_op; exact rfl; exact rfl; apply g_binOp; exact a_binI rfl rfl rfl; (with_reducible refine runs_done ?_); refine W.cond rfl (fun hc => ?_) (fun hc => ?_); refine W.seq ?_; refine W.regionL (by decide +kernel) rfl ?_; apply r_op; exact rfl; exact rfl
  apply a_assign; (conv => (lhs; whnf)); (with_reducible refine runs_done ?_); refine W.ret ?_; show Q Exit.ret _ _; refine post_q hQ (by apply res_tmp; exact rfl; exact res_nil) (.inl rfl) (by exact .refl _) ?_; (conv => (lhs; whnf)); rotate_left; refine W.skip ?_; show W _ _ _ _ _ _ _; refine W.seq ?_; refine W.seq ?_; refine W.regionL (by decide +kernel) rfl ?_; apply r_op; exact rfl; exact rfl
  apply a_assign; (conv => (lhs; whnf)); (with_reducible refine runs_done ?_); refine W.block ?_; rotate_left
  · have : ¬ a = b := by rintro rfl; simp at hc
    simp [this]
  · have hlen : a.length = b.length := by simp at hc; omega
    clear hc
    refine W.loop (fun k E s => ∃ i : Nat, i ≤ a.length ∧ k = a.length - i ∧ s = σ ∧ a.take i = b.take i ∧ Has [(0, .slc 8 (a.map eMsg) .no), (1, .slc 8 (b.map eMsg) .no), (5, .int .i64 i)] E) a.length ⟨0, Nat.zero_le _, rfl, rfl, by simp, by exact Has.by (by repeat (first | exact trivial | refine ⟨by first | trivial | exact Weak.refl _ | exact Weak.tok _ _ _ | exact Weak.of_eq (congrArg (AV.int _) (by omega)) | exact Weak.of_eq (congrArg AV.bool (by fail)) | exact Weak.nils _ _ (.inr rfl), ?_⟩))⟩ ?_
    rintro k E s ⟨i, hi, rfl, rfl, htk, hE⟩; refine W.has hE ?_; clear hE; refine W.seq ?_; refine W.seq ?_; refine W.regionL (by decide +kernel) rfl ?_; apply r_op; exact rfl; exact rfl; apply a_move; (conv => (lhs; whnf)); apply r_op; exact rfl; exact rfl; apply a_move; (conv => (lhs; whnf)); apply r_op; exact rfl; exact rfl; apply g_call; exact a_len_slc rfl; apply r_op; exact rfl; exact rfl
    apply g_binOp; exact a_binI rfl rfl rfl; (with_reducible refine runs_done ?_); refine W.cond rfl (fun hc => ?_) (fun hc => ?_)
    · have hlt : i < a.length := by simp at hc; omega
      have ga : a[i]? = some a[i] := by simp [hlt]
      have gb : b[i]? = some (b[i]'(by omega)) := List.getElem?_eq_getElem (by omega)
      have ht := take_succ_iff hlt (show i < b.length by omega) htk
      generalize a[i] = x at ga ht
      generalize b[i]'(by omega) = y at gb ht
      refine W.skip ?_; show W _ _ _ _ _ _ _; refine W.seq ?_; refine W.block ?_; refine W.seq ?_; refine W.regionDK 1 [] Ty.mixed (by decide +kernel) (by decide +kernel) rfl ?_; apply r_op; exact rfl; exact rfl; apply a_move; (conv => (lhs; whnf)); apply r_op; exact rfl; exact rfl; apply a_move; (conv => (lhs; whnf)); apply r_op; exact rfl; exact rfl; apply g_indexAddr
      exact a_indexAddr rfl rfl (by decide) (by omega) (by exact get_map ga); apply r_op; exact rfl; exact rfl; apply g_load; exact a_loadA rfl (by rfl) rfl; apply r_op; exact rfl; exact rfl; apply a_move; (conv => (lhs; whnf)); apply r_op; exact rfl; exact rfl; apply a_move; (conv => (lhs; whnf)); apply r_op; exact rfl; exact rfl; apply g_indexAddr
      exact a_indexAddr rfl rfl (by decide) (by omega) (by exact get_map gb); apply r_op; exact rfl; exact rfl; apply g_load; exact a_loadA rfl (by rfl) rfl; apply r_eqAgg; exact rfl; exact rfl; exact rfl; exact rfl; infer_instance; exact rfl; intro fs hfs; exact flat_msg _ hfs; exact eq_msg _ _; exact rfl; (with_reducible refine runs_done ?_); refine W.cond rfl (fun hc => ?_) (fun hc => ?_)
      refine W.seq ?_; refine W.regionL (by decide +kernel) rfl ?_; apply r_op; exact rfl; exact rfl; apply a_assign; (conv => (lhs; whnf)); (with_reducible refine runs_done ?_); refine W.ret ?_; show Q Exit.ret _ _; refine post_q hQ (by apply res_tmp; exact rfl; exact res_nil) (.inl rfl) (by exact .refl _) ?_; (conv => (lhs; whnf)); rotate_left; refine W.skip ?_; show W _ _ _ _ _ _ _
      refine W.regionL (by decide +kernel) rfl ?_; apply r_op; exact rfl; exact rfl; apply a_move; (conv => (lhs; whnf)); apply r_op; exact rfl; exact rfl; apply g_binOp; exact a_add64 rfl rfl (by omega); apply r_op; exact rfl; exact rfl; apply a_assign; (conv => (lhs; whnf)); (with_reducible refine runs_done ?_); rotate_left
      · have : ¬ a = b := fun e => by subst e; rw [ga] at gb; cases gb; simp at hc
        simp [this]
      · have hxy : x = y := by simpa using hc
        exact ⟨a.length - (i + 1), by omega, i + 1, by omega, rfl, rfl, ht.2 hxy, by exact Has.by (by repeat (first | exact trivial | refine ⟨by first | trivial | exact Weak.refl _ | exact Weak.tok _ _ _ | exact Weak.of_eq (congrArg (AV.int _) (by omega)) | exact Weak.of_eq (congrArg AV.bool (by fail)) | exact Weak.nils _ _ (.inr rfl), ?_⟩))⟩
    · have hge : i = a.length := by simp at hc; omega
      refine W.exit ?_; show W _ _ _ _ _ _ _; refine W.seq ?_; refine W.regionL (by decide +kernel) rfl ?_; apply r_op; exact rfl; exact rfl; apply a_assign; (conv => (lhs; whnf)); (with_reducible refine runs_done ?_); refine W.ret ?_; show Q Exit.ret _ _; refine post_q hQ (by apply res_tmp; exact rfl; exact res_nil) (.inl rfl) (by exact .refl _) ?_; (conv => (lhs; whnf))
      have : a = b := by rw [hge, List.take_length, hlen, List.take_length] at htk; exact htk
      simp [this]
theorem sub_ext {x y : Sub} (h1 : x.id = y.id) (h2 : x.name = y.name) (h3 : x.topic = y.topic) (h4 : x.want = y.want) (h5 : x.lease = y.lease) (h6 : x.most = y.most) (h7 : x.floor = y.floor) (h8 : x.acks = y.acks) (h9 : x.queue = y.queue) (h10 : x.note = y.note) : x = y := by
  cases x; cases y; simp_all
theorem sameSub_any (w0 : World) (x y : Sub) (hq : x.queue.length ≤ 1000000000) (ha : x.acks.length ≤ 1000000000) : CallP Tryd.prog w0 19 [eSub x, eSub y] (.bool (decide (x = y))) := by
  refine CallP.start Tryd.func19 rfl Tryd.ntmps19 (by simp) fun σ Q hQ => ?_
  refine W.seq ?_; refine W.regionL (by decide +kernel) rfl ?_; apply r_boxF; exact rfl; exact rfl; exact rfl; (conv => (lhs; whnf)); exact rfl; apply r_boxF; exact rfl; exact rfl; exact rfl; (conv => (lhs; whnf)); exact rfl; apply r_op; exact rfl; exact rfl; apply a_assign; (conv => (lhs; whnf)); (with_reducible refine runs_done ?_); refine W.seq ?_; refine W.seq ?_
  refine W.regionL (by decide +kernel) rfl ?_; apply r_op; exact rfl; exact rfl; apply g_fieldAddr; exact a_fieldAddr1 rfl (by decide) rfl; apply r_op; exact rfl; exact rfl; apply g_load; exact a_load1 rfl rfl; apply r_op; exact rfl; exact rfl; apply g_fieldAddr; exact a_fieldAddr1 rfl (by decide) rfl; apply r_op; exact rfl; exact rfl; apply g_load; exact a_load1 rfl rfl; apply r_op; exact rfl
  exact rfl; apply g_binOp; exact a_binI rfl rfl rfl; apply r_op; exact rfl; exact rfl; apply a_move; (conv => (lhs; whnf)); refine q_split rfl rfl rfl (fun hg => ?_) (fun hg => ?_); apply q_skip; exact rfl; exact want_f rfl rfl rfl (by assumption); apply q_skip; exact rfl; exact want_f rfl rfl rfl (by assumption); apply q_skip; exact rfl; exact want_f rfl rfl rfl (by assumption); apply q_skip
  exact rfl; exact want_f rfl rfl rfl (by assumption); apply q_skip; exact rfl; exact want_f rfl rfl rfl (by assumption); apply r_op; exact rfl; exact rfl; apply g_pick; apply a_pickT rfl (by assumption); (conv => (lhs; whnf)); apply r_op; exact rfl; exact rfl; apply a_move; (conv => (lhs; whnf)); apply q_skip; exact rfl; exact want_f rfl rfl rfl (by exact rfl); apply q_skip; exact rfl
  exact want_f rfl rfl rfl (by exact rfl); apply q_skip; exact rfl; exact want_f rfl rfl rfl (by exact rfl); apply q_skip; exact rfl; exact want_f rfl rfl rfl (by exact rfl); apply q_skip; exact rfl; exact want_f rfl rfl rfl (by exact rfl); apply r_op; exact rfl; exact rfl; apply g_pick; apply a_pickT rfl (by exact rfl); (conv => (lhs; whnf)); apply r_op; exact rfl; exact rfl; apply a_move
  (conv => (lhs; whnf)); apply q_skip; exact rfl; exact want_f rfl rfl rfl (by exact rfl); apply q_skip; exact rfl; exact want_f rfl rfl rfl (by exact rfl); apply q_skip; exact rfl; exact want_f rfl rfl rfl (by exact rfl); apply q_skip; exact rfl; exact want_f rfl rfl rfl (by exact rfl); apply q_skip; exact rfl; exact want_f rfl rfl rfl (by exact rfl); apply r_op; exact rfl; exact rfl; apply g_pick
  apply a_pickT rfl (by exact rfl); (conv => (lhs; whnf)); apply r_op; exact rfl; exact rfl; apply a_move; (conv => (lhs; whnf)); apply q_skip; exact rfl; exact want_f rfl rfl rfl (by exact rfl); apply q_skip; exact rfl; exact want_f rfl rfl rfl (by exact rfl); apply q_skip; exact rfl; exact want_f rfl rfl rfl (by exact rfl); apply q_skip; exact rfl; exact want_f rfl rfl rfl (by exact rfl)
  apply q_skip; exact rfl; exact want_f rfl rfl rfl (by exact rfl); apply r_op; exact rfl; exact rfl; apply g_pick; apply a_pickT rfl (by exact rfl); (conv => (lhs; whnf)); apply r_op; exact rfl; exact rfl; apply a_move; (conv => (lhs; whnf)); apply q_skip; exact rfl; exact want_f rfl rfl rfl (by exact rfl); apply q_skip; exact rfl; exact want_f rfl rfl rfl (by exact rfl); apply q_skip; exact rfl
  exact want_f rfl rfl rfl (by exact rfl); apply q_skip; exact rfl; exact want_f rfl rfl rfl (by exact rfl); apply q_skip; exact rfl; exact want_f rfl rfl rfl (by exact rfl); apply r_op; exact rfl; exact rfl; apply g_pick; apply a_pickT rfl (by exact rfl); (conv => (lhs; whnf)); apply r_op; exact rfl; exact rfl; apply a_move; (conv => (lhs; whnf)); apply q_skip; exact rfl
  exact want_f rfl rfl rfl (by exact rfl); apply q_skip; exact rfl; exact want_f rfl rfl rfl (by exact rfl); apply q_skip; exact rfl; exact want_f rfl rfl rfl (by exact rfl); apply q_skip; exact rfl; exact want_f rfl rfl rfl (by exact rfl); apply q_skip; exact rfl; exact want_f rfl rfl rfl (by exact rfl); apply r_op; exact rfl; exact rfl; apply g_pick; apply a_pickT rfl (by exact rfl)
  (conv => (lhs; whnf)); apply r_op; exact rfl; exact rfl; apply a_move; (conv => (lhs; whnf)); apply q_skip; exact rfl; exact want_f rfl rfl rfl (by exact rfl); apply q_skip; exact rfl; exact want_f rfl rfl rfl (by exact rfl); apply q_skip; exact rfl; exact want_f rfl rfl rfl (by exact rfl); apply q_skip; exact rfl; exact want_f rfl rfl rfl (by exact rfl); apply q_skip; exact rfl
  exact want_f rfl rfl rfl (by exact rfl); apply r_op; exact rfl; exact rfl; apply g_pick; apply a_pickT rfl (by exact rfl); (conv => (lhs; whnf)); apply r_op; exact rfl; exact rfl; apply a_move; (conv => (lhs; whnf)); apply q_skip; exact rfl; exact want_f rfl rfl rfl (by exact rfl); apply q_skip; exact rfl; exact want_f rfl rfl rfl (by exact rfl); apply q_skip; exact rfl
  exact want_f rfl rfl rfl (by exact rfl); apply q_skip; exact rfl; exact want_f rfl rfl rfl (by exact rfl); apply q_skip; exact rfl; exact want_f rfl rfl rfl (by exact rfl); apply q_skip; exact rfl; exact want_f rfl rfl rfl (by exact rfl); apply q_skip; exact rfl; exact want_f rfl rfl rfl (by exact rfl); apply r_op; exact rfl; exact rfl; apply g_pick; apply a_pickT rfl (by exact rfl)
  (conv => (lhs; whnf)); (with_reducible refine runs_done ?_); refine W.condT rfl (by exact rfl) ?_; refine W.seq ?_; refine W.regionL (by decide +kernel) rfl ?_; apply r_op; exact rfl; exact rfl; apply a_assign; (conv => (lhs; whnf)); (with_reducible refine runs_done ?_); refine W.ret ?_; show Q Exit.ret _ _
  refine post_q hQ (by apply res_tmp; exact rfl; exact res_nil) (.inl rfl) (by exact .refl _) ?_; (conv => (lhs; whnf)); rotate_left; apply r_op; exact rfl; exact want_t rfl rfl rfl (by assumption); apply g_fieldAddr; exact a_fieldAddr1 rfl (by decide) rfl; apply r_op; exact rfl; exact want_t rfl rfl rfl (by assumption); apply g_load; exact a_load1 rfl rfl; apply r_op; exact rfl
  exact want_t rfl rfl rfl (by assumption); apply g_fieldAddr; exact a_fieldAddr1 rfl (by decide) rfl; apply r_op; exact rfl; exact want_t rfl rfl rfl (by assumption); apply g_load; exact a_load1 rfl rfl; apply r_op; exact rfl; exact want_t rfl rfl rfl (by assumption); apply g_binOp; exact a_binS rfl rfl rfl rfl; apply r_op; exact rfl; exact rfl; apply g_pick; apply a_pickF rfl (by assumption)
  (conv => (lhs; whnf)); apply r_op; exact rfl; exact rfl; apply a_move; (conv => (lhs; whnf)); refine q_split rfl rfl rfl (fun hg => ?_) (fun hg => ?_); apply q_skip; exact rfl; exact want_f rfl rfl rfl (by assumption); apply q_skip; exact rfl; exact want_f rfl rfl rfl (by assumption); apply q_skip; exact rfl; exact want_f rfl rfl rfl (by assumption); apply q_skip; exact rfl
  exact want_f rfl rfl rfl (by assumption); apply q_skip; exact rfl; exact want_f rfl rfl rfl (by assumption); apply r_op; exact rfl; exact rfl; apply g_pick; apply a_pickT rfl (by assumption); (conv => (lhs; whnf)); apply r_op; exact rfl; exact rfl; apply a_move; (conv => (lhs; whnf)); apply q_skip; exact rfl; exact want_f rfl rfl rfl (by exact rfl); apply q_skip; exact rfl
  exact want_f rfl rfl rfl (by exact rfl); apply q_skip; exact rfl; exact want_f rfl rfl rfl (by exact rfl); apply q_skip; exact rfl; exact want_f rfl rfl rfl (by exact rfl); apply q_skip; exact rfl; exact want_f rfl rfl rfl (by exact rfl); apply r_op; exact rfl; exact rfl; apply g_pick; apply a_pickT rfl (by exact rfl); (conv => (lhs; whnf)); apply r_op; exact rfl; exact rfl; apply a_move
  (conv => (lhs; whnf)); apply q_skip; exact rfl; exact want_f rfl rfl rfl (by exact rfl); apply q_skip; exact rfl; exact want_f rfl rfl rfl (by exact rfl); apply q_skip; exact rfl; exact want_f rfl rfl rfl (by exact rfl); apply q_skip; exact rfl; exact want_f rfl rfl rfl (by exact rfl); apply q_skip; exact rfl; exact want_f rfl rfl rfl (by exact rfl); apply r_op; exact rfl; exact rfl; apply g_pick
  apply a_pickT rfl (by exact rfl); (conv => (lhs; whnf)); apply r_op; exact rfl; exact rfl; apply a_move; (conv => (lhs; whnf)); apply q_skip; exact rfl; exact want_f rfl rfl rfl (by exact rfl); apply q_skip; exact rfl; exact want_f rfl rfl rfl (by exact rfl); apply q_skip; exact rfl; exact want_f rfl rfl rfl (by exact rfl); apply q_skip; exact rfl; exact want_f rfl rfl rfl (by exact rfl)
  apply q_skip; exact rfl; exact want_f rfl rfl rfl (by exact rfl); apply r_op; exact rfl; exact rfl; apply g_pick; apply a_pickT rfl (by exact rfl); (conv => (lhs; whnf)); apply r_op; exact rfl; exact rfl; apply a_move; (conv => (lhs; whnf)); apply q_skip; exact rfl; exact want_f rfl rfl rfl (by exact rfl); apply q_skip; exact rfl; exact want_f rfl rfl rfl (by exact rfl); apply q_skip; exact rfl
  exact want_f rfl rfl rfl (by exact rfl); apply q_skip; exact rfl; exact want_f rfl rfl rfl (by exact rfl); apply q_skip; exact rfl; exact want_f rfl rfl rfl (by exact rfl); apply r_op; exact rfl; exact rfl; apply g_pick; apply a_pickT rfl (by exact rfl); (conv => (lhs; whnf)); apply r_op; exact rfl; exact rfl; apply a_move; (conv => (lhs; whnf)); apply q_skip; exact rfl
  exact want_f rfl rfl rfl (by exact rfl); apply q_skip; exact rfl; exact want_f rfl rfl rfl (by exact rfl); apply q_skip; exact rfl; exact want_f rfl rfl rfl (by exact rfl); apply q_skip; exact rfl; exact want_f rfl rfl rfl (by exact rfl); apply q_skip; exact rfl; exact want_f rfl rfl rfl (by exact rfl); apply r_op; exact rfl; exact rfl; apply g_pick; apply a_pickT rfl (by exact rfl)
  (conv => (lhs; whnf)); apply r_op; exact rfl; exact rfl; apply a_move; (conv => (lhs; whnf)); apply q_skip; exact rfl; exact want_f rfl rfl rfl (by exact rfl); apply q_skip; exact rfl; exact want_f rfl rfl rfl (by exact rfl); apply q_skip; exact rfl; exact want_f rfl rfl rfl (by exact rfl); apply q_skip; exact rfl; exact want_f rfl rfl rfl (by exact rfl); apply q_skip; exact rfl
  exact want_f rfl rfl rfl (by exact rfl); apply q_skip; exact rfl; exact want_f rfl rfl rfl (by exact rfl); apply q_skip; exact rfl; exact want_f rfl rfl rfl (by exact rfl); apply r_op; exact rfl; exact rfl; apply g_pick; apply a_pickT rfl (by exact rfl); (conv => (lhs; whnf)); (with_reducible refine runs_done ?_); refine W.condT rfl (by exact rfl) ?_; refine W.seq ?_
  refine W.regionL (by decide +kernel) rfl ?_; apply r_op; exact rfl; exact rfl; apply a_assign; (conv => (lhs; whnf)); (with_reducible refine runs_done ?_); refine W.ret ?_; show Q Exit.ret _ _; refine post_q hQ (by apply res_tmp; exact rfl; exact res_nil) (.inl rfl) (by exact .refl _) ?_; (conv => (lhs; whnf)); rotate_left; apply r_op; exact rfl; exact want_t rfl rfl rfl (by assumption)
  apply g_fieldAddr; exact a_fieldAddr1 rfl (by decide) rfl; apply r_op; exact rfl; exact want_t rfl rfl rfl (by assumption); apply g_load; exact a_load1 rfl rfl; apply r_op; exact rfl; exact want_t rfl rfl rfl (by assumption); apply g_fieldAddr; exact a_fieldAddr1 rfl (by decide) rfl; apply r_op; exact rfl; exact want_t rfl rfl rfl (by assumption); apply g_load; exact a_load1 rfl rfl; apply r_op
  exact rfl; exact want_t rfl rfl rfl (by assumption); apply g_binOp; exact a_binS rfl rfl rfl rfl; apply r_op; exact rfl; exact rfl; apply g_pick; apply a_pickF rfl (by assumption); (conv => (lhs; whnf)); apply r_op; exact rfl; exact rfl; apply a_move; (conv => (lhs; whnf)); refine q_split rfl rfl rfl (fun hg => ?_) (fun hg => ?_); apply q_skip; exact rfl; exact want_f rfl rfl rfl (by assumption)
  apply q_skip; exact rfl; exact want_f rfl rfl rfl (by assumption); apply q_skip; exact rfl; exact want_f rfl rfl rfl (by assumption); apply q_skip; exact rfl; exact want_f rfl rfl rfl (by assumption); apply q_skip; exact rfl; exact want_f rfl rfl rfl (by assumption); apply r_op; exact rfl; exact rfl; apply g_pick; apply a_pickT rfl (by assumption); (conv => (lhs; whnf)); apply r_op; exact rfl
  exact rfl; apply a_move; (conv => (lhs; whnf)); apply q_skip; exact rfl; exact want_f rfl rfl rfl (by exact rfl); apply q_skip; exact rfl; exact want_f rfl rfl rfl (by exact rfl); apply q_skip; exact rfl; exact want_f rfl rfl rfl (by exact rfl); apply q_skip; exact rfl; exact want_f rfl rfl rfl (by exact rfl); apply q_skip; exact rfl; exact want_f rfl rfl rfl (by exact rfl); apply r_op; exact rfl
  exact rfl; apply g_pick; apply a_pickT rfl (by exact rfl); (conv => (lhs; whnf)); apply r_op; exact rfl; exact rfl; apply a_move; (conv => (lhs; whnf)); apply q_skip; exact rfl; exact want_f rfl rfl rfl (by exact rfl); apply q_skip; exact rfl; exact want_f rfl rfl rfl (by exact rfl); apply q_skip; exact rfl; exact want_f rfl rfl rfl (by exact rfl); apply q_skip; exact rfl
  exact want_f rfl rfl rfl (by exact rfl); apply q_skip; exact rfl; exact want_f rfl rfl rfl (by exact rfl); apply r_op; exact rfl; exact rfl; apply g_pick; apply a_pickT rfl (by exact rfl); (conv => (lhs; whnf)); apply r_op; exact rfl; exact rfl; apply a_move; (conv => (lhs; whnf)); apply q_skip; exact rfl; exact want_f rfl rfl rfl (by exact rfl); apply q_skip; exact rfl
  exact want_f rfl rfl rfl (by exact rfl); apply q_skip; exact rfl; exact want_f rfl rfl rfl (by exact rfl); apply q_skip; exact rfl; exact want_f rfl rfl rfl (by exact rfl); apply q_skip; exact rfl; exact want_f rfl rfl rfl (by exact rfl); apply r_op; exact rfl; exact rfl; apply g_pick; apply a_pickT rfl (by exact rfl); (conv => (lhs; whnf)); apply r_op; exact rfl; exact rfl; apply a_move
  (conv => (lhs; whnf)); apply q_skip; exact rfl; exact want_f rfl rfl rfl (by exact rfl); apply q_skip; exact rfl; exact want_f rfl rfl rfl (by exact rfl); apply q_skip; exact rfl; exact want_f rfl rfl rfl (by exact rfl); apply q_skip; exact rfl; exact want_f rfl rfl rfl (by exact rfl); apply q_skip; exact rfl; exact want_f rfl rfl rfl (by exact rfl); apply r_op; exact rfl; exact rfl; apply g_pick
  apply a_pickT rfl (by exact rfl); (conv => (lhs; whnf)); apply r_op; exact rfl; exact rfl; apply a_move; (conv => (lhs; whnf)); apply q_skip; exact rfl; exact want_f rfl rfl rfl (by exact rfl); apply q_skip; exact rfl; exact want_f rfl rfl rfl (by exact rfl); apply q_skip; exact rfl; exact want_f rfl rfl rfl (by exact rfl); apply q_skip; exact rfl; exact want_f rfl rfl rfl (by exact rfl)
  apply q_skip; exact rfl; exact want_f rfl rfl rfl (by exact rfl); apply q_skip; exact rfl; exact want_f rfl rfl rfl (by exact rfl); apply q_skip; exact rfl; exact want_f rfl rfl rfl (by exact rfl); apply r_op; exact rfl; exact rfl; apply g_pick; apply a_pickT rfl (by exact rfl); (conv => (lhs; whnf)); (with_reducible refine runs_done ?_); refine W.condT rfl (by exact rfl) ?_; refine W.seq ?_
  refine W.regionL (by decide +kernel) rfl ?_; apply r_op; exact rfl; exact rfl; apply a_assign; (conv => (lhs; whnf)); (with_reducible refine runs_done ?_); refine W.ret ?_; show Q Exit.ret _ _; refine post_q hQ (by apply res_tmp; exact rfl; exact res_nil) (.inl rfl) (by exact .refl _) ?_; (conv => (lhs; whnf)); rotate_left; apply r_op; exact rfl; exact want_t rfl rfl rfl (by assumption)
  apply g_fieldAddr; exact a_fieldAddr1 rfl (by decide) rfl; apply r_op; exact rfl; exact want_t rfl rfl rfl (by assumption); apply g_load; exact a_load1 rfl rfl; apply r_op; exact rfl; exact want_t rfl rfl rfl (by assumption); apply g_fieldAddr; exact a_fieldAddr1 rfl (by decide) rfl; apply r_op; exact rfl; exact want_t rfl rfl rfl (by assumption); apply g_load; exact a_load1 rfl rfl; apply r_op
  exact rfl; exact want_t rfl rfl rfl (by assumption); apply g_binOp; exact a_binS rfl rfl rfl rfl; apply r_op; exact rfl; exact rfl; apply g_pick; apply a_pickF rfl (by assumption); (conv => (lhs; whnf)); apply r_op; exact rfl; exact rfl; apply a_move; (conv => (lhs; whnf)); refine q_split rfl rfl rfl (fun hg => ?_) (fun hg => ?_); apply q_skip; exact rfl; exact want_f rfl rfl rfl (by assumption)
  apply q_skip; exact rfl; exact want_f rfl rfl rfl (by assumption); apply q_skip; exact rfl; exact want_f rfl rfl rfl (by assumption); apply q_skip; exact rfl; exact want_f rfl rfl rfl (by assumption); apply q_skip; exact rfl; exact want_f rfl rfl rfl (by assumption); apply r_op; exact rfl; exact rfl; apply g_pick; apply a_pickT rfl (by assumption); (conv => (lhs; whnf)); apply r_op; exact rfl
  exact rfl; apply a_move; (conv => (lhs; whnf)); apply q_skip; exact rfl; exact want_f rfl rfl rfl (by exact rfl); apply q_skip; exact rfl; exact want_f rfl rfl rfl (by exact rfl); apply q_skip; exact rfl; exact want_f rfl rfl rfl (by exact rfl); apply q_skip; exact rfl; exact want_f rfl rfl rfl (by exact rfl); apply q_skip; exact rfl; exact want_f rfl rfl rfl (by exact rfl); apply r_op; exact rfl
  exact rfl; apply g_pick; apply a_pickT rfl (by exact rfl); (conv => (lhs; whnf)); apply r_op; exact rfl; exact rfl; apply a_move; (conv => (lhs; whnf)); apply q_skip; exact rfl; exact want_f rfl rfl rfl (by exact rfl); apply q_skip; exact rfl; exact want_f rfl rfl rfl (by exact rfl); apply q_skip; exact rfl; exact want_f rfl rfl rfl (by exact rfl); apply q_skip; exact rfl
  exact want_f rfl rfl rfl (by exact rfl); apply q_skip; exact rfl; exact want_f rfl rfl rfl (by exact rfl); apply r_op; exact rfl; exact rfl; apply g_pick; apply a_pickT rfl (by exact rfl); (conv => (lhs; whnf)); apply r_op; exact rfl; exact rfl; apply a_move; (conv => (lhs; whnf)); apply q_skip; exact rfl; exact want_f rfl rfl rfl (by exact rfl); apply q_skip; exact rfl
  exact want_f rfl rfl rfl (by exact rfl); apply q_skip; exact rfl; exact want_f rfl rfl rfl (by exact rfl); apply q_skip; exact rfl; exact want_f rfl rfl rfl (by exact rfl); apply q_skip; exact rfl; exact want_f rfl rfl rfl (by exact rfl); apply r_op; exact rfl; exact rfl; apply g_pick; apply a_pickT rfl (by exact rfl); (conv => (lhs; whnf)); apply r_op; exact rfl; exact rfl; apply a_move
  (conv => (lhs; whnf)); apply q_skip; exact rfl; exact want_f rfl rfl rfl (by exact rfl); apply q_skip; exact rfl; exact want_f rfl rfl rfl (by exact rfl); apply q_skip; exact rfl; exact want_f rfl rfl rfl (by exact rfl); apply q_skip; exact rfl; exact want_f rfl rfl rfl (by exact rfl); apply q_skip; exact rfl; exact want_f rfl rfl rfl (by exact rfl); apply q_skip; exact rfl
  exact want_f rfl rfl rfl (by exact rfl); apply q_skip; exact rfl; exact want_f rfl rfl rfl (by exact rfl); apply r_op; exact rfl; exact rfl; apply g_pick; apply a_pickT rfl (by exact rfl); (conv => (lhs; whnf)); (with_reducible refine runs_done ?_); refine W.condT rfl (by exact rfl) ?_; refine W.seq ?_; refine W.regionL (by decide +kernel) rfl ?_; apply r_op; exact rfl; exact rfl; apply a_assign
  (conv => (lhs; whnf)); (with_reducible refine runs_done ?_); refine W.ret ?_; show Q Exit.ret _ _; refine post_q hQ (by apply res_tmp; exact rfl; exact res_nil) (.inl rfl) (by exact .refl _) ?_; (conv => (lhs; whnf)); rotate_left; apply r_op; exact rfl; exact want_t rfl rfl rfl (by assumption); apply g_fieldAddr; exact a_fieldAddr1 rfl (by decide) rfl; apply r_op; exact rfl
  exact want_t rfl rfl rfl (by assumption); apply g_load; exact a_load1 rfl rfl; apply r_op; exact rfl; exact want_t rfl rfl rfl (by assumption); apply g_fieldAddr; exact a_fieldAddr1 rfl (by decide) rfl; apply r_op; exact rfl; exact want_t rfl rfl rfl (by assumption); apply g_load; exact a_load1 rfl rfl; apply r_op; exact rfl; exact want_t rfl rfl rfl (by assumption); apply g_binOp
  exact a_binI rfl rfl rfl; apply r_op; exact rfl; exact rfl; apply g_pick; apply a_pickF rfl (by assumption); (conv => (lhs; whnf)); apply r_op; exact rfl; exact rfl; apply a_move; (conv => (lhs; whnf)); refine q_split rfl rfl rfl (fun hg => ?_) (fun hg => ?_); apply q_skip; exact rfl; exact want_f rfl rfl rfl (by assumption); apply q_skip; exact rfl; exact want_f rfl rfl rfl (by assumption)
  apply q_skip; exact rfl; exact want_f rfl rfl rfl (by assumption); apply q_skip; exact rfl; exact want_f rfl rfl rfl (by assumption); apply q_skip; exact rfl; exact want_f rfl rfl rfl (by assumption); apply r_op; exact rfl; exact rfl; apply g_pick; apply a_pickT rfl (by assumption); (conv => (lhs; whnf)); apply r_op; exact rfl; exact rfl; apply a_move; (conv => (lhs; whnf)); apply q_skip
  exact rfl; exact want_f rfl rfl rfl (by exact rfl); apply q_skip; exact rfl; exact want_f rfl rfl rfl (by exact rfl); apply q_skip; exact rfl; exact want_f rfl rfl rfl (by exact rfl); apply q_skip; exact rfl; exact want_f rfl rfl rfl (by exact rfl); apply q_skip; exact rfl; exact want_f rfl rfl rfl (by exact rfl); apply r_op; exact rfl; exact rfl; apply g_pick; apply a_pickT rfl (by exact rfl)
  (conv => (lhs; whnf)); apply r_op; exact rfl; exact rfl; apply a_move; (conv => (lhs; whnf)); apply q_skip; exact rfl; exact want_f rfl rfl rfl (by exact rfl); apply q_skip; exact rfl; exact want_f rfl rfl rfl (by exact rfl); apply q_skip; exact rfl; exact want_f rfl rfl rfl (by exact rfl); apply q_skip; exact rfl; exact want_f rfl rfl rfl (by exact rfl); apply q_skip; exact rfl
  exact want_f rfl rfl rfl (by exact rfl); apply r_op; exact rfl; exact rfl; apply g_pick; apply a_pickT rfl (by exact rfl); (conv => (lhs; whnf)); apply r_op; exact rfl; exact rfl; apply a_move; (conv => (lhs; whnf)); apply q_skip; exact rfl; exact want_f rfl rfl rfl (by exact rfl); apply q_skip; exact rfl; exact want_f rfl rfl rfl (by exact rfl); apply q_skip; exact rfl
  exact want_f rfl rfl rfl (by exact rfl); apply q_skip; exact rfl; exact want_f rfl rfl rfl (by exact rfl); apply q_skip; exact rfl; exact want_f rfl rfl rfl (by exact rfl); apply q_skip; exact rfl; exact want_f rfl rfl rfl (by exact rfl); apply q_skip; exact rfl; exact want_f rfl rfl rfl (by exact rfl); apply r_op; exact rfl; exact rfl; apply g_pick; apply a_pickT rfl (by exact rfl)
  (conv => (lhs; whnf)); (with_reducible refine runs_done ?_); refine W.condT rfl (by exact rfl) ?_; refine W.seq ?_; refine W.regionL (by decide +kernel) rfl ?_; apply r_op; exact rfl; exact rfl; apply a_assign; (conv => (lhs; whnf)); (with_reducible refine runs_done ?_); refine W.ret ?_; show Q Exit.ret _ _
  refine post_q hQ (by apply res_tmp; exact rfl; exact res_nil) (.inl rfl) (by exact .refl _) ?_; (conv => (lhs; whnf)); rotate_left; apply r_op; exact rfl; exact want_t rfl rfl rfl (by assumption); apply g_fieldAddr; exact a_fieldAddr1 rfl (by decide) rfl; apply r_op; exact rfl; exact want_t rfl rfl rfl (by assumption); apply g_load; exact a_load1 rfl rfl; apply r_op; exact rfl
  exact want_t rfl rfl rfl (by assumption); apply g_fieldAddr; exact a_fieldAddr1 rfl (by decide) rfl; apply r_op; exact rfl; exact want_t rfl rfl rfl (by assumption); apply g_load; exact a_load1 rfl rfl; apply r_op; exact rfl; exact want_t rfl rfl rfl (by assumption); apply g_binOp; exact a_binI rfl rfl rfl; apply r_op; exact rfl; exact rfl; apply g_pick; apply a_pickF rfl (by assumption)
  (conv => (lhs; whnf)); apply r_op; exact rfl; exact rfl; apply a_move; (conv => (lhs; whnf)); refine q_split rfl rfl rfl (fun hg => ?_) (fun hg => ?_); apply q_skip; exact rfl; exact want_f rfl rfl rfl (by assumption); apply q_skip; exact rfl; exact want_f rfl rfl rfl (by assumption); apply q_skip; exact rfl; exact want_f rfl rfl rfl (by assumption); apply q_skip; exact rfl
  exact want_f rfl rfl rfl (by assumption); apply q_skip; exact rfl; exact want_f rfl rfl rfl (by assumption); apply r_op; exact rfl; exact rfl; apply g_pick; apply a_pickT rfl (by assumption); (conv => (lhs; whnf)); apply r_op; exact rfl; exact rfl; apply a_move; (conv => (lhs; whnf)); apply q_skip; exact rfl; exact want_f rfl rfl rfl (by exact rfl); apply q_skip; exact rfl
  exact want_f rfl rfl rfl (by exact rfl); apply q_skip; exact rfl; exact want_f rfl rfl rfl (by exact rfl); apply q_skip; exact rfl; exact want_f rfl rfl rfl (by exact rfl); apply q_skip; exact rfl; exact want_f rfl rfl rfl (by exact rfl); apply r_op; exact rfl; exact rfl; apply g_pick; apply a_pickT rfl (by exact rfl); (conv => (lhs; whnf)); apply r_op; exact rfl; exact rfl; apply a_move
  (conv => (lhs; whnf)); apply q_skip; exact rfl; exact want_f rfl rfl rfl (by exact rfl); apply q_skip; exact rfl; exact want_f rfl rfl rfl (by exact rfl); apply q_skip; exact rfl; exact want_f rfl rfl rfl (by exact rfl); apply q_skip; exact rfl; exact want_f rfl rfl rfl (by exact rfl); apply q_skip; exact rfl; exact want_f rfl rfl rfl (by exact rfl); apply q_skip; exact rfl
  exact want_f rfl rfl rfl (by exact rfl); apply q_skip; exact rfl; exact want_f rfl rfl rfl (by exact rfl); apply r_op; exact rfl; exact rfl; apply g_pick; apply a_pickT rfl (by exact rfl); (conv => (lhs; whnf)); (with_reducible refine runs_done ?_); refine W.condT rfl (by exact rfl) ?_; refine W.seq ?_; refine W.regionL (by decide +kernel) rfl ?_; apply r_op; exact rfl; exact rfl; apply a_assign
  (conv => (lhs; whnf)); (with_reducible refine runs_done ?_); refine W.ret ?_; show Q Exit.ret _ _; refine post_q hQ (by apply res_tmp; exact rfl; exact res_nil) (.inl rfl) (by exact .refl _) ?_; (conv => (lhs; whnf)); rotate_left; apply r_op; exact rfl; exact want_t rfl rfl rfl (by assumption); apply g_fieldAddr; exact a_fieldAddr1 rfl (by decide) rfl; apply r_op; exact rfl
  exact want_t rfl rfl rfl (by assumption); apply g_load; exact a_load1 rfl rfl; apply r_op; exact rfl; exact want_t rfl rfl rfl (by assumption); apply g_fieldAddr; exact a_fieldAddr1 rfl (by decide) rfl; apply r_op; exact rfl; exact want_t rfl rfl rfl (by assumption); apply g_load; exact a_load1 rfl rfl; apply r_op; exact rfl; exact want_t rfl rfl rfl (by assumption); apply g_binOp
  exact a_binI rfl rfl rfl; apply r_op; exact rfl; exact rfl; apply g_pick; apply a_pickF rfl (by assumption); (conv => (lhs; whnf)); apply r_op; exact rfl; exact rfl; apply a_move; (conv => (lhs; whnf)); refine q_split rfl rfl rfl (fun hg => ?_) (fun hg => ?_); apply q_skip; exact rfl; exact want_f rfl rfl rfl (by assumption); apply q_skip; exact rfl; exact want_f rfl rfl rfl (by assumption)
  apply q_skip; exact rfl; exact want_f rfl rfl rfl (by assumption); apply q_skip; exact rfl; exact want_f rfl rfl rfl (by assumption); apply q_skip; exact rfl; exact want_f rfl rfl rfl (by assumption); apply r_op; exact rfl; exact rfl; apply g_pick; apply a_pickT rfl (by assumption); (conv => (lhs; whnf)); apply r_op; exact rfl; exact rfl; apply a_move; (conv => (lhs; whnf)); apply q_skip
  exact rfl; exact want_f rfl rfl rfl (by exact rfl); apply q_skip; exact rfl; exact want_f rfl rfl rfl (by exact rfl); apply q_skip; exact rfl; exact want_f rfl rfl rfl (by exact rfl); apply q_skip; exact rfl; exact want_f rfl rfl rfl (by exact rfl); apply q_skip; exact rfl; exact want_f rfl rfl rfl (by exact rfl); apply q_skip; exact rfl; exact want_f rfl rfl rfl (by exact rfl); apply q_skip
  exact rfl; exact want_f rfl rfl rfl (by exact rfl); apply r_op; exact rfl; exact rfl; apply g_pick; apply a_pickT rfl (by exact rfl); (conv => (lhs; whnf)); (with_reducible refine runs_done ?_); refine W.condT rfl (by exact rfl) ?_; refine W.seq ?_; refine W.regionL (by decide +kernel) rfl ?_; apply r_op; exact rfl; exact rfl; apply a_assign; (conv => (lhs; whnf))
  (with_reducible refine runs_done ?_); refine W.ret ?_; show Q Exit.ret _ _; refine post_q hQ (by apply res_tmp; exact rfl; exact res_nil) (.inl rfl) (by exact .refl _) ?_; (conv => (lhs; whnf)); rotate_left; apply r_op; exact rfl; exact want_t rfl rfl rfl (by assumption); apply g_fieldAddr; exact a_fieldAddr1 rfl (by decide) rfl; apply r_op; exact rfl; exact want_t rfl rfl rfl (by assumption)
  apply g_load; exact a_load1 rfl rfl; apply r_op; exact rfl; exact want_t rfl rfl rfl (by assumption); apply g_fieldAddr; exact a_fieldAddr1 rfl (by decide) rfl; apply r_op; exact rfl; exact want_t rfl rfl rfl (by assumption); apply g_load; exact a_load1 rfl rfl; apply r_op; exact rfl; exact want_t rfl rfl rfl (by assumption); apply g_binOp; exact a_binS rfl rfl rfl rfl; apply r_op; exact rfl
  exact rfl; apply g_pick; apply a_pickF rfl (by assumption); (conv => (lhs; whnf)); apply r_op; exact rfl; exact rfl; apply a_move; (conv => (lhs; whnf)); refine q_split rfl rfl rfl (fun hg => ?_) (fun hg => ?_); apply q_skip; exact rfl; exact want_f rfl rfl rfl (by assumption); apply q_skip; exact rfl; exact want_f rfl rfl rfl (by assumption); apply q_skip; exact rfl
  exact want_f rfl rfl rfl (by assumption); apply q_skip; exact rfl; exact want_f rfl rfl rfl (by assumption); apply q_skip; exact rfl; exact want_f rfl rfl rfl (by assumption); apply q_skip; exact rfl; exact want_f rfl rfl rfl (by assumption); apply q_skip; exact rfl; exact want_f rfl rfl rfl (by assumption); apply r_op; exact rfl; exact rfl; apply g_pick; apply a_pickT rfl (by assumption)
  (conv => (lhs; whnf)); (with_reducible refine runs_done ?_); refine W.condT rfl (by exact rfl) ?_; refine W.seq ?_; refine W.regionL (by decide +kernel) rfl ?_; apply r_op; exact rfl; exact rfl; apply a_assign; (conv => (lhs; whnf)); (with_reducible refine runs_done ?_); refine W.ret ?_; show Q Exit.ret _ _
  refine post_q hQ (by apply res_tmp; exact rfl; exact res_nil) (.inl rfl) (by exact .refl _) ?_; (conv => (lhs; whnf)); rotate_left; apply r_op; exact rfl; exact want_t rfl rfl rfl (by assumption); apply g_fieldAddr; exact a_fieldAddr1 rfl (by decide) rfl; apply r_op; exact rfl; exact want_t rfl rfl rfl (by assumption); apply g_load; exact a_load1 rfl rfl; apply r_op; exact rfl
  exact want_t rfl rfl rfl (by assumption); apply g_call; exact a_len_slc rfl; apply r_op; exact rfl; exact want_t rfl rfl rfl (by assumption); apply g_fieldAddr; exact a_fieldAddr1 rfl (by decide) rfl; apply r_op; exact rfl; exact want_t rfl rfl rfl (by assumption); apply g_load; exact a_load1 rfl rfl; apply r_op; exact rfl; exact want_t rfl rfl rfl (by assumption); apply g_call
  exact a_len_slc rfl; apply r_op; exact rfl; exact want_t rfl rfl rfl (by assumption); apply g_binOp; exact a_binI rfl rfl rfl; apply r_op; exact rfl; exact rfl; apply g_pick; apply a_pickF rfl (by assumption); (conv => (lhs; whnf)); (with_reducible refine runs_done ?_); refine W.cond rfl (fun hc => ?_) (fun hc => ?_); refine W.seq ?_; refine W.regionL (by decide +kernel) rfl ?_; apply r_op
  exact rfl; exact rfl; apply a_assign; (conv => (lhs; whnf)); (with_reducible refine runs_done ?_); refine W.ret ?_; show Q Exit.ret _ _; refine post_q hQ (by apply res_tmp; exact rfl; exact res_nil) (.inl rfl) (by exact .refl _) ?_; (conv => (lhs; whnf)); rotate_left; refine W.skip ?_; show W _ _ _ _ _ _ _; refine W.seq ?_; refine W.seq ?_; refine W.regionL (by decide +kernel) rfl ?_; apply r_op
  exact rfl; exact rfl; apply a_assign; (conv => (lhs; whnf)); (with_reducible refine runs_done ?_); refine W.block ?_; rotate_left
  · have : ¬ x = y := fun e => by subst e; simp at hg
    simp [this]
  · have : ¬ x = y := fun e => by subst e; simp at hg
    simp [this]
  · have : ¬ x = y := fun e => by subst e; simp at hg
    simp [this]
  · have : ¬ x = y := fun e => by subst e; simp at hg
    simp [this]
  · have : ¬ x = y := fun e => by subst e; simp at hg
    simp [this]
  · have : ¬ x = y := fun e => by subst e; simp at hg
    simp [this]
  · have : ¬ x = y := fun e => by subst e; simp at hg
    simp [this]
  · have : ¬ x = y := fun e => by subst e; simp at hg
    simp [this]
  · have : ¬ x = y := fun e => by subst e; simp at hc
    simp [this]
  · have e1 : x.id = y.id := by simpa using ‹(!decide (x.id = y.id)) = false›
    have e2 : x.name = y.name := by simpa using ‹(!decide (x.name = y.name)) = false›
    have e3 : x.topic = y.topic := by simpa using ‹(!decide (x.topic = y.topic)) = false›
    have e4 : x.want = y.want := by simpa using ‹(!decide (x.want = y.want)) = false›
    have e5 : x.lease = y.lease := by simpa using ‹(!decide (x.lease = y.lease)) = false›
    have e6 : x.most = y.most := by simpa using ‹(!decide (x.most = y.most)) = false›
    have e7 : x.floor = y.floor := by simpa using ‹(!decide (x.floor = y.floor)) = false›
    have e8 : x.note = y.note := by simpa using ‹(!decide (x.note = y.note)) = false›
    have hlen : x.acks.length = y.acks.length := by simp at hc; omega
    · refine W.loop (fun k E s => ∃ i : Nat, i ≤ x.acks.length ∧ k = x.acks.length - i ∧ s = σ ∧ x.acks.take i = y.acks.take i ∧ Has [(2, .vp (eSub x)), (3, .vp (eSub y)), (5, .int .i64 i)] E) x.acks.length ⟨0, Nat.zero_le _, rfl, rfl, by simp, by exact Has.by (by repeat (first | exact trivial | refine ⟨by first | trivial | exact Weak.refl _ | exact Weak.tok _ _ _ | exact Weak.of_eq (congrArg (AV.int _) (by omega)) | exact Weak.of_eq (congrArg AV.bool (by fail)) | exact Weak.nils _ _ (.inr rfl), ?_⟩))⟩ ?_
      rintro k E s ⟨i, hi, rfl, rfl, htk, hE⟩; refine W.has hE ?_; clear hE hc; refine W.seq ?_; refine W.seq ?_; refine W.regionL (by decide +kernel) rfl ?_; apply r_op; exact rfl; exact rfl; apply a_move; (conv => (lhs; whnf)); apply r_op; exact rfl; exact rfl; apply g_fieldAddr; exact a_fieldAddr1 rfl (by decide) rfl; apply r_op; exact rfl; exact rfl; apply g_load; exact a_load1 rfl rfl
      apply r_op; exact rfl; exact rfl; apply g_call; exact a_len_slc rfl; apply r_op; exact rfl; exact rfl; apply g_binOp; exact a_binI rfl rfl rfl; (with_reducible refine runs_done ?_); refine W.cond rfl (fun hc => ?_) (fun hc => ?_)
      · have hlt : i < x.acks.length := by simp at hc; omega
        have ga : x.acks[i]? = some x.acks[i] := by simp [hlt]
        have gb : y.acks[i]? = some (y.acks[i]'(by omega)) := List.getElem?_eq_getElem (by omega)
        have ht := take_succ_iff hlt (show i < y.acks.length by omega) htk
        generalize x.acks[i] = a at ga ht
        generalize y.acks[i]'(by omega) = b at gb ht
        refine W.skip ?_; show W _ _ _ _ _ _ _; refine W.seq ?_; refine W.block ?_; refine W.seq ?_; refine W.regionDK 1 [] Ty.mixed (by decide +kernel) (by decide +kernel) rfl ?_; apply r_op; exact rfl; exact rfl; apply g_fieldAddr; exact a_fieldAddr1 rfl (by decide) rfl; apply r_op; exact rfl; exact rfl; apply g_load; exact a_load1 rfl rfl; apply r_op; exact rfl; exact rfl; apply a_move
        (conv => (lhs; whnf)); apply r_op; exact rfl; exact rfl; apply g_indexAddr; exact a_indexAddr rfl rfl (by decide) (by omega) (by exact get_map ga); apply r_op; exact rfl; exact rfl; apply g_load; exact a_load1 rfl rfl; apply r_op; exact rfl; exact rfl; apply g_fieldAddr; exact a_fieldAddr1 rfl (by decide) rfl; apply r_op; exact rfl; exact rfl; apply g_load; exact a_load1 rfl rfl; apply r_op
        exact rfl; exact rfl; apply a_move; (conv => (lhs; whnf)); apply r_op; exact rfl; exact rfl; apply g_indexAddr; exact a_indexAddr rfl rfl (by decide) (by omega) (by exact get_map gb); apply r_op; exact rfl; exact rfl; apply g_load; exact a_load1 rfl rfl; apply r_op; exact rfl; exact rfl; apply g_binOp; exact a_binI rfl rfl rfl; (with_reducible refine runs_done ?_)
        refine W.cond rfl (fun hc => ?_) (fun hc => ?_); refine W.seq ?_; refine W.regionL (by decide +kernel) rfl ?_; apply r_op; exact rfl; exact rfl; apply a_assign; (conv => (lhs; whnf)); (with_reducible refine runs_done ?_); refine W.ret ?_; show Q Exit.ret _ _; refine post_q hQ (by apply res_tmp; exact rfl; exact res_nil) (.inl rfl) (by exact .refl _) ?_; (conv => (lhs; whnf)); rotate_left
        refine W.skip ?_; show W _ _ _ _ _ _ _; refine W.regionL (by decide +kernel) rfl ?_; apply r_op; exact rfl; exact rfl; apply a_move; (conv => (lhs; whnf)); apply r_op; exact rfl; exact rfl; apply g_binOp; exact a_add64 rfl rfl (by omega); apply r_op; exact rfl; exact rfl; apply a_assign; (conv => (lhs; whnf)); (with_reducible refine runs_done ?_); rotate_left
        · have : ¬ x = y := fun e => by subst e; rw [ga] at gb; cases gb; simp at hc
          simp [this]
        · have hxy : a = b := by simpa using hc
          exact ⟨x.acks.length - (i + 1), by omega, i + 1, by omega, rfl, rfl, ht.2 hxy, by exact Has.by (by repeat (first | exact trivial | refine ⟨by first | trivial | exact Weak.refl _ | exact Weak.tok _ _ _ | exact Weak.of_eq (congrArg (AV.int _) (by omega)) | exact Weak.of_eq (congrArg AV.bool (by fail)) | exact Weak.nils _ _ (.inr rfl), ?_⟩))⟩
      · have hge : i = x.acks.length := by simp at hc; omega
        have e9 : x.acks = y.acks := by rw [hge, List.take_length, hlen, List.take_length] at htk; exact htk
        have : x = y ↔ x.queue = y.queue := ⟨fun h => by rw [h], fun h => sub_ext e1 e2 e3 e4 e5 e6 e7 e9 h e8⟩
        refine W.exit ?_; show W _ _ _ _ _ _ _; refine W.seq ?_; refine W.regionL (by decide +kernel) rfl ?_; apply r_op; exact rfl; exact rfl; apply g_fieldAddr; exact a_fieldAddr1 rfl (by decide) rfl; apply r_op; exact rfl; exact rfl; apply g_load; exact a_load1 rfl rfl; apply r_op; exact rfl; exact rfl; apply g_fieldAddr; exact a_fieldAddr1 rfl (by decide) rfl; apply r_op; exact rfl; exact rfl
        apply g_load; exact a_load1 rfl rfl; apply r_callP; exact rfl; exact rfl; exact rfl; exact rfl; exact rfl; infer_instance; exact sameMsgs_any w0 _ _ _ _ hq; apply r_op; exact rfl; exact rfl; apply a_assign; (conv => (lhs; whnf)); (with_reducible refine runs_done ?_); refine W.ret ?_; show Q Exit.ret _ _
        refine post_q hQ (by apply res_tmp; exact rfl; exact res_nil) (.inl rfl) (by exact .refl _) ?_; (conv => (lhs; whnf))
        simp [this]
end Go.Proofs.YtkbmkhhcppfcnaaDoor
end
section
set_option linter.unusedVariables false
set_option linter.unusedSimpArgs false
set_option maxRecDepth 100000
set_option maxHeartbeats 1000000
namespace Go.Proofs.YtkbmkhhcppfcnaaDoor
open Go.Al Go.RowKit
theorem twoKeys_any (w0 : World) (hL : Laid w0) (c : List UInt8) (t : Tok) (k : UInt8) (hc : c.length ≤ 9223372036854775807) (σ : St) : CallW Tryd.prog w0 11 [.slc 1 (aBytes c) t, .int .u8 k.toNat] σ (fun r _ => r = .bool true) := by
  have hk := k.toNat_lt
  refine CallW.x Ty.tok Ty.mixed Tryd.func11 rfl Tryd.ntmps11 rfl (by simp) (by decide +kernel) (.nil σ) ?_; (conv => whnf); refine SCall.w (by exact lawsub2_any w0 c t k hc _) rfl ?_; rintro r s ⟨x1, rfl, hx1, hs1⟩ hB
  replace hs1 := hs1.symm
  subst hs1
  refine ⟨_, hB, ?_⟩; clear hB; (conv => whnf); intro b1 hb1; (conv => whnf); refine SStore.on 0 rfl ?_; (conv => whnf); refine SLoad.on 0 rfl ?_; (conv => whnf)
  have hg : Grown (1 + k.toNat) 9 (2 + k.toNat) x1 := hx1
  have hfx := hg.fits
  have hid : ((cl x1.id : Nat) : Int) = x1.id := cl_nn (by have := hg.id; omega)
  have hup := enc2_up (hg.good2 (by omega) (by omega) (by omega))
  have hrow := fun r hr => enc2_row (r := r) hg (by omega) hr
  have hlen := enc2_few x1
  have hnq := hg.nqueue
  have hlong := enc2_long x1
  have henc := enc2_p w0 hL x1 hfx
  generalize enc2 x1 = l at hup hrow hlen hlong henc
  have d5 : decide (1 + ((x1.queue.map eMsg).length : Int) ≤ ((l.map eRow).length : Int)) = true := decide_eq_true (by simp; omega)
  refine SCall.p (by exact henc) ?_; (conv => whnf)
  refine SLoop.fz 5 0 σ [] rfl (by repeat (first | assumption | exact .refl _ | refine le_new2 ?_ (by assumption) | refine le_new ?_ (by assumption) | refine le_setBox ?_ (by first | assumption | exact none_in (by assumption) | exact none_in (none_in (by assumption)) | exact none_in (none_in (none_in (by assumption))) | fail) | exact Moves.le (by assumption) | refine .trans ?_ (Moves.le (by assumption)))) hb1 (.nil σ) rfl rfl ?_
  refine SLoop.by Ty.mixed (fun i => l.length - i) (fun i => [(5, .vp (eSub x1)), (6, .slc 2 (l.map eRow) .no), (7, .int .i64 i)]) (fun _ => []) (fun i s => i ≤ l.length) 0 ⟨by repeat (first | exact trivial | refine ⟨by first | trivial | exact Weak.refl _ | exact Weak.tok _ _ _ | exact Weak.of_eq (congrArg (AV.int _) (by omega)) | exact Weak.of_eq (congrArg AV.bool (by fail)) | exact Weak.nils _ _ (.inr rfl), ?_⟩), BSub.none _, Nat.zero_le _⟩ ?_
  rintro i s hi; (conv => whnf)
  skip
  (refine SIf.x Ty.mixed (fun hc => ?_) (fun hc => ?_) <;> (conv => whnf))
  · have hlt : i < l.length := by simp at hc; omega
    have ga : l[i]? = some l[i] := by simp [hlt]
    obtain ⟨⟨u, seq, hu, hkey⟩, hval⟩ := hrow l[i] (List.getElem_mem hlt)
    have hp := partsR_any w0 hL l[i].key (by rw [hkey, rkey_length]; decide)
    rw [hkey, parts_rkey (by decide) hu, ePts, hid] at hp
    have hprev : ¬ i = 0 → ∃ pv, l[((i : Int) - 1).toNat]? = some pv ∧ (ltS l[i].key pv.key || decide (l[i].key = pv.key)) = false := fun h0 => by
      obtain ⟨j, rfl⟩ : ∃ j, i = j + 1 := ⟨i - 1, by omega⟩
      have gj : l[j]? = some (l[j]'(by omega)) := by simp
      refine ⟨l[j]'(by omega), by rw [show (((j + 1 : Nat) : Int) - 1).toNat = j by omega]; exact gj, ltS_not_le (hup.get gj ga)⟩
    rw [hkey] at hprev
    have d1 : (!decide (x1.id = x1.id)) = false := by simp
    have d2 : decide ((150 : Int) < ((aBytes l[i].val).length : Int)) = false := decide_eq_false (by rw [length_aBytes]; omega)
    generalize l[i] = r at ga hkey hval hp hprev d2
    rw [← hkey] at hp hprev
    clear hkey hval hc hu
    by_cases h0 : i = 0
    · subst h0
      have d3 : decide ((0 : Int) < ((0 : Nat) : Int)) = false := rfl
      refine ⟨_, ⟨by first | omega | (simp only [List.length_cons, List.length_append, List.length_nil, List.length_map, length_aBytes, List.length_replicate, List.length_range]; omega) | fail, by exact get_map ga⟩, ?_⟩
      (conv => whnf); refine SCall.p (by exact hp) ?_; (conv => whnf); refine SReg.d [0, 1, 2, 3, 4, 5, 6, 7, 8, 9, 10, 11, 12, 13, 14, 15, 16, 17, 18, 19, 20, 21, 22, 23, 24, 25, 26, 27, 28, 29, 30, 31, 32, 33, 34, 35, 36, 37, 38] [0, 0, 0, 0, 0, 0, 0, 0, 0, 0, 0, 0, 0, 0, 0, 0, 0, 0, 0, 0, 0, 0, 0, 0, 0, 0, 0, 0, 0, 0, 0, 0, 0, 0, 0, 0, 0, 0, 0] (by decide +kernel) ?_; (conv => whnf); (conv => whnf); refine SCond.n (by exact rfl) ?_; (conv => whnf); refine SCond.n (by exact rfl) ?_; (conv => whnf); refine SPick.n (by exact rfl) ?_; (conv => whnf); refine SCond.n (by exact rfl) ?_; (conv => whnf)
      refine SCond.n (by exact rfl) ?_; (conv => whnf); refine SCond.n (by exact rfl) ?_; (conv => whnf); refine SCond.n (by exact rfl) ?_; (conv => whnf); refine SPick.n (by exact rfl) ?_; (conv => whnf); refine SCond.n (by assumption) ?_; (conv => whnf); refine SCond.n (by assumption) ?_; (conv => whnf); refine SCond.n (by assumption) ?_; (conv => whnf)
      refine ⟨_, ⟨by first | omega | (simp only [List.length_cons, List.length_append, List.length_nil, List.length_map, length_aBytes, List.length_replicate, List.length_range]; omega) | fail, by exact get_map ga⟩, ?_⟩
      (conv => whnf); refine SCond.n (by assumption) ?_; (conv => whnf); refine SCond.n (by assumption) ?_; (conv => whnf); refine SCond.n (by assumption) ?_; (conv => whnf); refine SCond.n (by assumption) ?_; (conv => whnf); refine SPick.n (by assumption) ?_; (conv => whnf); refine SCond.n (by assumption) ?_; (conv => whnf); refine SCond.n (by assumption) ?_; (conv => whnf)
      refine SCond.n (by assumption) ?_; (conv => whnf); refine SCond.n (by exact rfl) ?_; (conv => whnf); refine SCond.n (by exact rfl) ?_; (conv => whnf); refine SCond.n (by exact rfl) ?_; (conv => whnf); refine SCond.n (by exact rfl) ?_; (conv => whnf); refine SCond.n (by exact rfl) ?_; (conv => whnf); refine SCond.n (by exact rfl) ?_; (conv => whnf); refine SCond.n (by exact rfl) ?_
      (conv => whnf); refine SCond.n (by exact rfl) ?_; (conv => whnf); refine SCond.n (by exact rfl) ?_; (conv => whnf); refine SCond.n (by exact rfl) ?_; (conv => whnf); refine SCond.n (by exact rfl) ?_; (conv => whnf); refine SCond.n (by exact rfl) ?_; (conv => whnf); refine SCond.n (by assumption) ?_; (conv => whnf); refine SPick.n (by exact rfl) ?_; (conv => whnf)
      refine SPick.n (by assumption) ?_; (conv => whnf); refine SIf.n Ty.mixed (by exact rfl) ?_; (conv => whnf); refine ⟨_, IntWalk.i64_in _ (by omega), ?_⟩; (conv => whnf)
      exact ⟨0 + 1, by omega, by repeat (first | exact trivial | refine ⟨by first | trivial | exact Weak.refl _ | exact Weak.tok _ _ _ | exact Weak.of_eq (congrArg (AV.int _) (by omega)) | exact Weak.of_eq (congrArg AV.bool (by fail)) | exact Weak.nils _ _ (.inr rfl), ?_⟩), BSub.none _, by omega⟩
    · have d3 : decide ((0 : Int) < (i : Int)) = true := decide_eq_true (by omega)
      obtain ⟨pv, gp, d4⟩ := hprev h0
      refine ⟨_, ⟨by first | omega | (simp only [List.length_cons, List.length_append, List.length_nil, List.length_map, length_aBytes, List.length_replicate, List.length_range]; omega) | fail, by first | exact get_map ga | exact get_map gp | fail⟩, ?_⟩
      (conv => whnf); refine SCall.p (by exact hp) ?_; (conv => whnf); refine SReg.d [0, 1, 2, 3, 4, 5, 6, 7, 8, 9, 10, 11, 12, 13, 14, 15, 16, 17, 18, 19, 20, 21, 22, 23, 24, 25, 26, 27, 28, 29, 30, 31, 32, 33, 34, 35, 36, 37, 38] [0, 0, 0, 0, 0, 0, 0, 0, 0, 0, 0, 0, 0, 0, 0, 0, 0, 0, 0, 0, 0, 0, 0, 0, 0, 0, 0, 0, 0, 0, 0, 0, 0, 0, 0, 0, 0, 0, 0] (by decide +kernel) ?_; (conv => whnf); (conv => whnf); refine SCond.n (by exact rfl) ?_; (conv => whnf); refine SCond.n (by exact rfl) ?_; (conv => whnf); refine SPick.n (by exact rfl) ?_; (conv => whnf); refine SCond.n (by exact rfl) ?_; (conv => whnf)
      refine SCond.n (by exact rfl) ?_; (conv => whnf); refine SCond.n (by exact rfl) ?_; (conv => whnf); refine SCond.n (by exact rfl) ?_; (conv => whnf); refine SPick.n (by exact rfl) ?_; (conv => whnf); refine SCond.n (by assumption) ?_; (conv => whnf); refine SCond.n (by assumption) ?_; (conv => whnf); refine SCond.n (by assumption) ?_; (conv => whnf)
      refine ⟨_, ⟨by first | omega | (simp only [List.length_cons, List.length_append, List.length_nil, List.length_map, length_aBytes, List.length_replicate, List.length_range]; omega) | fail, by first | exact get_map ga | exact get_map gp | fail⟩, ?_⟩
      (conv => whnf); refine SCond.n (by assumption) ?_; (conv => whnf); refine SCond.n (by assumption) ?_; (conv => whnf); refine SCond.n (by assumption) ?_; (conv => whnf); refine SCond.n (by assumption) ?_; (conv => whnf); refine SPick.n (by assumption) ?_; (conv => whnf); refine SCond.n (by assumption) ?_; (conv => whnf); refine SCond.n (by assumption) ?_; (conv => whnf)
      refine SCond.n (by assumption) ?_; (conv => whnf); refine SCond.y (by assumption) ?_; (conv => whnf); refine SCond.y (by assumption) ?_; (conv => whnf); refine SCond.y (by assumption) ?_; (conv => whnf)
      refine ⟨_, ⟨by first | omega | (simp only [List.length_cons, List.length_append, List.length_nil, List.length_map, length_aBytes, List.length_replicate, List.length_range]; omega) | fail, by first | exact get_map ga | exact get_map gp | fail⟩, ?_⟩
      (conv => whnf); refine SCond.y (by assumption) ?_; (conv => whnf); refine SCond.y (by assumption) ?_; (conv => whnf); refine SCond.y (by assumption) ?_; (conv => whnf); refine SCond.y (by assumption) ?_; (conv => whnf); refine SCond.y (by assumption) ?_; (conv => whnf); refine ⟨_, IntWalk.i64_in _ (by omega), ?_⟩; (conv => whnf); refine SCond.y (by assumption) ?_; (conv => whnf)
      refine ⟨_, ⟨by first | omega | (simp only [List.length_cons, List.length_append, List.length_nil, List.length_map, length_aBytes, List.length_replicate, List.length_range]; omega) | fail, by first | exact get_map ga | exact get_map gp | fail⟩, ?_⟩
      (conv => whnf); refine SCond.y (by assumption) ?_; (conv => whnf); refine SCond.y (by assumption) ?_; (conv => whnf); refine SCond.y (by assumption) ?_; (conv => whnf); refine SCond.n (by assumption) ?_; (conv => whnf); refine SPick.y (by assumption) ?_; (conv => whnf); refine SPick.n (by assumption) ?_; (conv => whnf); refine SIf.n Ty.mixed (by assumption) ?_; (conv => whnf)
      refine ⟨_, IntWalk.i64_in _ (by omega), ?_⟩; (conv => whnf)
      exact ⟨i + 1, by omega, by repeat (first | exact trivial | refine ⟨by first | trivial | exact Weak.refl _ | exact Weak.tok _ _ _ | exact Weak.of_eq (congrArg (AV.int _) (by omega)) | exact Weak.of_eq (congrArg AV.bool (by fail)) | exact Weak.nils _ _ (.inr rfl), ?_⟩), BSub.none _, by omega⟩
  · have hge : i = l.length := by simp at hc; omega
    refine SCall.p (by exact known2_any w0 hL) ?_; (conv => whnf); refine SCond.y (by exact rfl) ?_; (conv => whnf); refine SCond.y (by exact rfl) ?_; (conv => whnf); refine SCond.y (by exact rfl) ?_; (conv => whnf); refine SCond.y (by exact rfl) ?_; (conv => whnf); refine SCond.y (by exact rfl) ?_; (conv => whnf); refine SCond.y (by exact rfl) ?_; (conv => whnf)
    refine ⟨_, IntWalk.i64_in _ (by simp only [List.length_cons, List.length_append, List.length_nil, List.length_map, length_aBytes, List.length_replicate, List.length_range]; omega), ?_⟩; (conv => whnf); refine SCond.y (by exact rfl) ?_; (conv => whnf); refine SPick.y (by exact rfl) ?_; (conv => whnf); exact .w (by rw [d5])
end Go.Proofs.YtkbmkhhcppfcnaaDoor
end
section
set_option linter.unusedVariables false
namespace Go.Proofs.YtkbmkhhcppfcnaaDoor
open Go.Al
theorem tot_bound2 : ∀ (l : List Row) (n : Nat), (∀ r ∈ l, r.val.length ≤ n) → tot l ≤ l.length * (n + 1)
  | [], n, _ => by simp [tot]
  | r :: l, n, h => by
    have h1 := tot_bound2 l n fun x hx => h x (by simp [hx])
    have h2 := h r (by simp)
    have h3 : tot (r :: l) = r.val.length + 1 + tot l := by simp [tot]
    have h4 : (r :: l).length * (n + 1) = l.length * (n + 1) + (n + 1) := by simp [Nat.add_mul, Nat.add_comm]
    omega
end Go.Proofs.YtkbmkhhcppfcnaaDoor
end
section
set_option linter.unusedVariables false
set_option linter.unusedSimpArgs false
set_option maxRecDepth 100000
set_option maxHeartbeats 1000000
namespace Go.Proofs.YtkbmkhhcppfcnaaDoor
open Go.Al Go.RowKit
def ups (last : Int) : List Int → List Int
  | [] => []
  | g :: l => (last + (1 + g)) :: ups (last + (1 + g)) l
theorem ups_len : ∀ (l : List Int) (a : Int), (ups a l).length = l.length
  | [], _ => rfl
  | g :: l, a => by simp [ups, ups_len l]
theorem ups_rise : ∀ (l : List Int) (a : Int), (∀ g ∈ l, 0 ≤ g ∧ g ≤ 65535) → Rise a (ups a l)
  | [], _, _ => trivial
  | g :: l, a, h => ⟨by have := h g (by simp); omega, ups_rise l _ fun x hx => h x (by simp [hx])⟩
theorem ups_high : ∀ (l : List Int) (a : Int), (∀ g ∈ l, 0 ≤ g ∧ g ≤ 65535) → ∀ x ∈ ups a l, x ≤ a + 65536 * l.length
  | [], _, _, x, hx => by simp [ups] at hx
  | g :: l, a, h, x, hx => by
    have hg := h g (by simp)
    rcases List.mem_cons.1 hx with rfl | hx
    · simp; omega
    · have := ups_high l _ (fun x hx => h x (by simp [hx])) x hx
      simp; omega
def gx (fl : Int) (gs : List Int) : Sub := ⟨4, [110], [35], [], 1, 1, fl, ups fl gs, [], []⟩
theorem gx_good {fl : Int} {gs : List Int} (hf : 0 ≤ fl ∧ fl ≤ 65535) (hl : gs.length ≤ 20) (hg : ∀ g ∈ gs, 0 ≤ g ∧ g ≤ 65535) : Good2 (gx fl gs) :=
  ⟨Nat.le_of_ble_eq_true rfl, Nat.le_of_ble_eq_true rfl, Nat.le_of_ble_eq_true rfl, Nat.le_of_ble_eq_true rfl, by show (0 : Int) ≤ 4 ∧ (4 : Int) ≤ 9999999999; omega, by show n53 1; exact ⟨by omega, by omega⟩, by show n53 1; exact ⟨by omega, by omega⟩, ⟨hf.1, by show fl ≤ 9007199254740992; omega⟩, by show (ups fl gs).length ≤ 100000; rw [ups_len]; omega, ups_rise gs fl hg, fun a ha => by have := ups_high gs fl hg a ha; omega, trivial, by simp [gx], by simp [gx]⟩
theorem gx_fits {fl : Int} {gs : List Int} (hl : gs.length ≤ 20) : Fits (gx fl gs) := ⟨Nat.le_of_ble_eq_true rfl, Nat.le_of_ble_eq_true rfl, Nat.le_of_ble_eq_true rfl, Nat.le_of_ble_eq_true rfl, by show (ups fl gs).length ≤ 100000; rw [ups_len]; omega, Nat.le_of_ble_eq_true rfl, by simp [gx]⟩
theorem gx_len (fl : Int) (gs : List Int) : (enc2 (gx fl gs)).length = 1 + min gs.length 1 := by
  have h : ups fl gs = [] ↔ gs = [] := by cases gs <;> simp [ups]
  cases gs with
  | nil => simp [enc2, ack2, note2, gx, ups]
  | cons g l => simp [enc2, ack2, note2, gx, ups]
theorem gx_tot (fl : Int) (gs : List Int) (hl : gs.length ≤ 20) : tot (enc2 (gx fl gs)) ≤ 100000 := by
  have h0 := ups_len gs fl
  have h1 := gapsB_len (ups fl gs) fl
  have h2 := num_len (ups fl gs).length
  have h3 := num_len 1
  have h4 := num_len fl
  have h5 := txt_len [110]
  have h6 := txt_len [35]
  have h7 := txt_len []
  simp only [List.length_cons, List.length_nil] at h5 h6 h7
  have hs : (s2 (gx fl gs)).val.length ≤ 60 := by
    show (sB2 (gx fl gs)).length ≤ 60
    simp only [sB2, gx, List.length_append]; omega
  have ha : (acksB (gx fl gs)).length ≤ 200 := by
    simp only [acksB, gx, List.length_append]; omega
  have he : enc2 (gx fl gs) = ack2 (gx fl gs) ++ [s2 (gx fl gs)] := by simp [enc2, note2, gx]
  rw [he]
  refine Nat.le_trans (tot_bound2 _ 200 fun r hr => ?_) ?_
  · rcases List.mem_append.1 hr with hr | hr
    · unfold ack2 at hr
      split at hr
      · simp at hr
      · obtain rfl := List.mem_singleton.1 hr; exact ha
    · obtain rfl := List.mem_singleton.1 hr; omega
  · have : (ack2 (gx fl gs)).length ≤ 1 := by unfold ack2; split <;> simp
    simp only [List.length_append, List.length_singleton]; omega
theorem gx_keys (fl : Int) (gs : List Int) : ∀ r ∈ enc2 (gx fl gs), r.key.length ≤ 1000000 := fun r hr => by
  have he : enc2 (gx fl gs) = ack2 (gx fl gs) ++ [s2 (gx fl gs)] := by simp [enc2, note2, gx]
  rw [he] at hr
  rcases List.mem_append.1 hr with hr | hr
  · unfold ack2 at hr
    split at hr
    · simp at hr
    · obtain rfl := List.mem_singleton.1 hr; simp [rkey_length]
  · obtain rfl := List.mem_singleton.1 hr; simp [s2, rkey_length]
def gc (fl : Int) (av : AV) : List AV := [.int .i64 4, .str [110], .str [35], .str [], .int .i64 1, .int .i64 1, .int .i64 fl, av, .nils, .str []]
theorem base_is {xs : List Int} {tk : Tok} {av : AV} (h : aBase 1 av = some (xs.map (.int .i64), tk)) : (av = .nils ∧ xs = [] ∧ tk = .full) ∨ av = .slc 1 (xs.map (.int .i64)) tk := by
  cases av with
  | nils =>
    simp [aBase] at h
    exact .inl ⟨rfl, h.1, h.2.symm⟩
  | slc sz ys t =>
    simp only [aBase] at h
    split at h
    · rename_i e
      cases h
      exact .inr (by rw [e])
    · cases h
  | _ => simp [aBase] at h
theorem gx_enc (w0 : World) (hL : Laid w0) (fl : Int) (gs : List Int) (av : AV) (hl : gs.length ≤ 20) (h : Weak (.slc 1 ((ups fl gs).map (.int .i64)) .no) av) : CallP Tryd.prog w0 29 [.agg (gc fl av)] (eRows (enc2 (gx fl gs))) := fun σ =>
  CallW.weak1 [] [] (.agg (.cons (.refl _) (.cons (.refl _) (.cons (.refl _) (.cons (.refl _) (.cons (.refl _) (.cons (.refl _) (.cons (.refl _) (.cons h (.cons (.nils _ _ (.inl rfl)) (.cons (.refl _) .nil)))))))))) (by simp [AV.one])) (enc2_p w0 hL (gx fl gs) (gx_fits hl) σ)
theorem twoGaps_any (w0 : World) (hL : Laid w0) (fl : Nat) (gs : List Int) (t : Tok) (hf : fl < 65536) (hg : ∀ g ∈ gs, 0 ≤ g ∧ g ≤ 65535) (σ : St) : CallW Tryd.prog w0 12 [.int .u16 fl, .slc 1 (gs.map (.int .u16)) t] σ (fun r _ => r = .bool true) := by
  refine CallW.x Ty.tok Ty.mixed Tryd.func12 rfl Tryd.ntmps12 rfl (by simp) (by decide +kernel) (.nil σ) ?_; (conv => whnf)
  skip
  (refine SIf.x Ty.mixed (fun hc => ?_) (fun hc => ?_) <;> (conv => whnf))
  · refine SCall.p (by exact known2_any w0 hL) ?_
    (conv => whnf); exact .w rfl
  have hl : gs.length ≤ 20 := by simp at hc; omega
  clear hc; refine ⟨_, IntWalk.i64_in _ (by omega), ?_⟩; (conv => whnf); intro b1 hb1; (conv => whnf); refine SStore.on 0 rfl ?_; (conv => whnf); refine SLoad.on 0 rfl ?_; (conv => whnf)
  rw [setBox_setBox]
  refine SLoop.by Ty.mixed (fun (a : Nat × AV × Tok × List Int × Int) => gs.length - a.1) (fun (i, av, tk, acks, la) => [(1, .slc 1 (gs.map (.int .u16)) .no), (5, .ptr b1 0), (6, .int .i64 la), (7, .int .i64 i)]) (fun (i, av, tk, acks, la) => [(b1, gc fl av)]) (fun (i, av, tk, acks, la) s => i ≤ gs.length ∧ acks.length = i ∧ (0 ≤ la ∧ la ≤ 65535 + 65536 * i) ∧ ups fl gs = acks ++ ups la (gs.drop i) ∧ aBase 1 av = some (acks.map (.int .i64), tk) ∧ Moves (σ.setBox b1 (gc fl av)) .full s tk) (0, .nils, .full, [], fl) ⟨by repeat (first | exact trivial | refine ⟨by first | trivial | exact Weak.refl _ | exact Weak.tok _ _ _ | exact Weak.of_eq (congrArg (AV.int _) (by omega)) | exact Weak.of_eq (congrArg AV.bool (by fail)) | exact Weak.nils _ _ (.inr rfl), ?_⟩), .refl _, Nat.zero_le _, rfl, by omega, rfl, rfl, .full _⟩ ?_
  rintro ⟨i, av, tk, acks, la⟩ s ⟨hi, hal, hla, hu, hav, hm0⟩
  rcases base_is hav with ⟨rfl, rfl, rfl⟩ | rfl
  · (conv => whnf)
    skip
    (refine SIf.x Ty.mixed (fun hc => ?_) (fun hc => ?_) <;> (conv => whnf))
    · have hlt : i < gs.length := by simp at hc; omega
      have ga : gs[i]? = some gs[i] := by simp [hlt]
      have hgi := hg _ (List.getElem_mem hlt)
      have hd : gs.drop i = gs[i] :: gs.drop (i + 1) := List.drop_eq_getElem_cons hlt
      rw [hd, ups] at hu
      generalize gs[i] = g at ga hgi hd hu
      have ga' := get_map (f := AV.int .u16) ga
      refine ⟨_, ⟨by first | omega | (simp only [List.length_cons, List.length_append, List.length_nil, List.length_map, length_aBytes, List.length_replicate, List.length_range]; omega) | fail, by exact ga'⟩, ?_⟩
      (conv => whnf); refine ⟨_, IntWalk.i64_in _ (by omega), ?_⟩; (conv => whnf); refine ⟨_, IntWalk.i64_in _ (by omega), ?_⟩; (conv => whnf); refine ⟨_, IntWalk.i64_in _ (by omega), ?_⟩; (conv => whnf); refine SLoad.on 0 rfl ?_; (conv => whnf)
      refine SApp.c rfl rfl (by exact hm0) (by simp only [length_aBytes, List.length_append, List.length_cons, List.length_nil, List.length_map, List.length_range]; omega) fun tk1 σ1 hm => ?_
      (conv => whnf); refine SStore.on 0 rfl ?_; (conv => whnf); refine ⟨_, IntWalk.i64_in _ (by omega), ?_⟩; (conv => whnf)
      refine ⟨(i + 1, .slc 1 (([] : List AV) ++ [.int .i64 (la + (1 + g))]) tk1, tk1, ([] : List Int) ++ [la + (1 + g)], la + (1 + g)), by show gs.length - (i + 1) < gs.length - i; omega, by repeat (first | exact trivial | refine ⟨by first | trivial | exact Weak.refl _ | exact Weak.tok _ _ _ | exact Weak.of_eq (congrArg (AV.int _) (by omega)) | exact Weak.of_eq (congrArg AV.bool (by fail)) | exact Weak.nils _ _ (.inr rfl), ?_⟩), .refl _, hlt, by simp at hal ⊢; omega, by omega, by rw [hu]; simp, by simp [aBase], ?_⟩
      have := hm.set b1 (gc fl (.slc 1 (([] : List AV) ++ [.int .i64 (la + (1 + g))]) tk1))
      rwa [setBox_setBox] at this
    have hge : i = gs.length := by simp at hc; omega
    subst hge
    rw [List.drop_length] at hu
    have hu : ups fl gs = ([] : List Int) := by rw [hu]; simp [ups]
    clear hc hi
    have hen := gx_enc w0 hL fl gs .nils hl (by rw [hu]; exact .nils _ _ (.inl rfl))
    have hgd : Good2 (gx fl gs) := gx_good ⟨by omega, by omega⟩ hl hg
    have hdec := dec2_p w0 hL (enc2 (gx fl gs)) .no (gx_tot fl gs hl) (gx_keys fl gs)
    have hlen := gx_len fl gs
    have e : eSub (gx fl gs) = .agg [.int .i64 4, .str [110], .str [35], .str [], .int .i64 1, .int .i64 1, .int .i64 fl, .slc 1 (([] : List Int).map (.int .i64)) .no, .slc 8 [] .no, .str []] := by rw [← hu]; rfl
    rw [dec2_back hgd] at hdec
    dsimp only at hdec
    rw [e] at hdec
    generalize enc2 (gx fl gs) = l at hen hdec hlen
    have d1 : (!decide (((([] : List Int).map (AV.int .i64)).length : Int) = ((([] : List Int).map (AV.int .i64)).length : Int))) = false := by simp
    have d2 : (!decide (((l.map eRow).length : Int) = 1 + min ((gs.map (AV.int .u16)).length : Int) 1)) = false := by simp; omega
    clear e hgd hm0; refine SLoad.on 0 rfl ?_; (conv => whnf); refine SCall.p (by exact hen) ?_; (conv => whnf); refine SCall.p (by exact hdec) ?_; (conv => whnf); intro b9 hb9; (conv => whnf); refine SStore.on 0 rfl ?_; (conv => whnf); refine SCond.n (by exact rfl) ?_; (conv => whnf); refine SCond.n (by exact rfl) ?_; (conv => whnf); refine SLoad.on 0 rfl ?_; (conv => whnf)
    refine SCond.n (by exact rfl) ?_; (conv => whnf); refine SCond.n (by exact rfl) ?_; (conv => whnf); refine SCond.n (by exact rfl) ?_; (conv => whnf); refine SLoad.on 1 rfl ?_; (conv => whnf); refine SCond.n (by exact rfl) ?_; (conv => whnf); refine SCond.n (by exact rfl) ?_; (conv => whnf); refine SPick.n (by exact rfl) ?_; (conv => whnf); refine SCond.n (by exact rfl) ?_; (conv => whnf)
    refine SCond.n (by exact rfl) ?_; (conv => whnf); refine SCond.n (by exact rfl) ?_; (conv => whnf); refine SCond.n (by exact rfl) ?_; (conv => whnf); refine SCond.n (by exact rfl) ?_; (conv => whnf); refine SCond.n (by exact rfl) ?_; (conv => whnf); refine ⟨_, IntWalk.i64_in _ (by omega), ?_⟩; (conv => whnf); refine SCond.n (by exact rfl) ?_; (conv => whnf); refine SPick.n (by exact rfl) ?_
    (conv => whnf); refine SIf.n Ty.mixed (by assumption) ?_; (conv => whnf)
    rw [setBox_setBox]
    refine SLoop.by Ty.mixed (fun i => 0 - i) (fun i => [(5, .ptr b1 0), (9, .ptr b9 0), (11, .int .i64 i)]) (fun _ => [(b9, [.int .i64 4, .str [110], .str [35], .str [], .int .i64 1, .int .i64 1, .int .i64 fl, .slc 1 (([] : List Int).map (.int .i64)) .no, .slc 8 [] .no, .str []]), (b1, gc fl .nils)]) (fun i s => i ≤ 0) 0 ⟨by repeat (first | exact trivial | refine ⟨by first | trivial | exact Weak.refl _ | exact Weak.tok _ _ _ | exact Weak.of_eq (congrArg (AV.int _) (by omega)) | exact Weak.of_eq (congrArg AV.bool (by fail)) | exact Weak.nils _ _ (.inr rfl), ?_⟩), .refl _, Nat.zero_le _⟩ ?_
    rintro i s hi; (conv => whnf); refine SLoad.on 1 rfl ?_; (conv => whnf); refine SIf.n Ty.mixed (by exact rfl) ?_; (conv => whnf); refine SCall.p (by exact known2_any w0 hL) ?_; (conv => whnf); exact .w rfl
  · (conv => whnf)
    skip
    (refine SIf.x Ty.mixed (fun hc => ?_) (fun hc => ?_) <;> (conv => whnf))
    · have hlt : i < gs.length := by simp at hc; omega
      have ga : gs[i]? = some gs[i] := by simp [hlt]
      have hgi := hg _ (List.getElem_mem hlt)
      have hd : gs.drop i = gs[i] :: gs.drop (i + 1) := List.drop_eq_getElem_cons hlt
      rw [hd, ups] at hu
      generalize gs[i] = g at ga hgi hd hu
      have ga' := get_map (f := AV.int .u16) ga
      refine ⟨_, ⟨by first | omega | (simp only [List.length_cons, List.length_append, List.length_nil, List.length_map, length_aBytes, List.length_replicate, List.length_range]; omega) | fail, by exact ga'⟩, ?_⟩
      (conv => whnf); refine ⟨_, IntWalk.i64_in _ (by omega), ?_⟩; (conv => whnf); refine ⟨_, IntWalk.i64_in _ (by omega), ?_⟩; (conv => whnf); refine ⟨_, IntWalk.i64_in _ (by omega), ?_⟩; (conv => whnf); refine SLoad.on 0 rfl ?_; (conv => whnf)
      refine SApp.c rfl rfl (by exact hm0) (by simp only [length_aBytes, List.length_append, List.length_cons, List.length_nil, List.length_map, List.length_range]; omega) fun tk1 σ1 hm => ?_
      (conv => whnf); refine SStore.on 0 rfl ?_; (conv => whnf); refine ⟨_, IntWalk.i64_in _ (by omega), ?_⟩; (conv => whnf)
      refine ⟨(i + 1, .slc 1 (acks.map (.int .i64) ++ [.int .i64 (la + (1 + g))]) tk1, tk1, acks ++ [la + (1 + g)], la + (1 + g)), by show gs.length - (i + 1) < gs.length - i; omega, by repeat (first | exact trivial | refine ⟨by first | trivial | exact Weak.refl _ | exact Weak.tok _ _ _ | exact Weak.of_eq (congrArg (AV.int _) (by omega)) | exact Weak.of_eq (congrArg AV.bool (by fail)) | exact Weak.nils _ _ (.inr rfl), ?_⟩), .refl _, hlt, by simp at hal ⊢; omega, by omega, by rw [hu]; simp, by simp [aBase], ?_⟩
      have := hm.set b1 (gc fl (.slc 1 (acks.map (.int .i64) ++ [.int .i64 (la + (1 + g))]) tk1))
      rwa [setBox_setBox] at this
    have hge : i = gs.length := by simp at hc; omega
    subst hge
    rw [List.drop_length] at hu
    have hu : ups fl gs = acks := by rw [hu]; simp [ups]
    clear hc hi
    have hen := gx_enc w0 hL fl gs (.slc 1 (acks.map (.int .i64)) tk) hl (by rw [hu]; exact .tok _ _ _)
    have hgd : Good2 (gx fl gs) := gx_good ⟨by omega, by omega⟩ hl hg
    have hdec := dec2_p w0 hL (enc2 (gx fl gs)) .no (gx_tot fl gs hl) (gx_keys fl gs)
    have hlen := gx_len fl gs
    have e : eSub (gx fl gs) = .agg [.int .i64 4, .str [110], .str [35], .str [], .int .i64 1, .int .i64 1, .int .i64 fl, .slc 1 (acks.map (.int .i64)) .no, .slc 8 [] .no, .str []] := by rw [← hu]; rfl
    rw [dec2_back hgd] at hdec
    dsimp only at hdec
    rw [e] at hdec
    generalize enc2 (gx fl gs) = l at hen hdec hlen
    have d1 : (!decide (((acks.map (AV.int .i64)).length : Int) = ((acks.map (AV.int .i64)).length : Int))) = false := by simp
    have d2 : (!decide (((l.map eRow).length : Int) = 1 + min ((gs.map (AV.int .u16)).length : Int) 1)) = false := by simp; omega
    clear e hgd hm0; refine SLoad.on 0 rfl ?_; (conv => whnf); refine SCall.p (by exact hen) ?_; (conv => whnf); refine SCall.p (by exact hdec) ?_; (conv => whnf); intro b9 hb9; (conv => whnf); refine SStore.on 0 rfl ?_; (conv => whnf); refine SCond.n (by exact rfl) ?_; (conv => whnf); refine SCond.n (by exact rfl) ?_; (conv => whnf); refine SLoad.on 0 rfl ?_; (conv => whnf)
    refine SCond.n (by exact rfl) ?_; (conv => whnf); refine SCond.n (by exact rfl) ?_; (conv => whnf); refine SCond.n (by exact rfl) ?_; (conv => whnf); refine SLoad.on 1 rfl ?_; (conv => whnf); refine SCond.n (by exact rfl) ?_; (conv => whnf); refine SCond.n (by exact rfl) ?_; (conv => whnf); refine SPick.n (by exact rfl) ?_; (conv => whnf); refine SCond.n (by assumption) ?_; (conv => whnf)
    refine SCond.n (by assumption) ?_; (conv => whnf); refine SCond.n (by assumption) ?_; (conv => whnf); refine SCond.n (by assumption) ?_; (conv => whnf); refine SCond.n (by assumption) ?_; (conv => whnf); refine SCond.n (by assumption) ?_; (conv => whnf); refine ⟨_, IntWalk.i64_in _ (by omega), ?_⟩; (conv => whnf); refine SCond.n (by assumption) ?_; (conv => whnf)
    refine SPick.n (by assumption) ?_; (conv => whnf); refine SIf.n Ty.mixed (by assumption) ?_; (conv => whnf)
    rw [setBox_setBox]
    refine SLoop.by Ty.mixed (fun i => acks.length - i) (fun i => [(5, .ptr b1 0), (9, .ptr b9 0), (11, .int .i64 i)]) (fun _ => [(b9, [.int .i64 4, .str [110], .str [35], .str [], .int .i64 1, .int .i64 1, .int .i64 fl, .slc 1 (acks.map (.int .i64)) .no, .slc 8 [] .no, .str []]), (b1, gc fl (.slc 1 (acks.map (.int .i64)) tk))]) (fun i s => i ≤ acks.length) 0 ⟨by repeat (first | exact trivial | refine ⟨by first | trivial | exact Weak.refl _ | exact Weak.tok _ _ _ | exact Weak.of_eq (congrArg (AV.int _) (by omega)) | exact Weak.of_eq (congrArg AV.bool (by fail)) | exact Weak.nils _ _ (.inr rfl), ?_⟩), .refl _, Nat.zero_le _⟩ ?_
    rintro i s hi; (conv => whnf); refine SLoad.on 1 rfl ?_; (conv => whnf)
    (refine SIf.x Ty.mixed (fun hc => ?_) (fun hc => ?_) <;> (conv => whnf))
    · have hlt : i < acks.length := by simp at hc; omega
      have ga := get_map (f := AV.int .i64) (show acks[i]? = some acks[i] by simp [hlt])
      have d3 : (!decide (acks[i] = acks[i])) = false := by simp
      generalize acks[i] = z at ga d3
      refine SReg.d [0, 2, 5, 7, 1, 3, 4, 6, 8, 9, 10] [0, 1, 0, 0, 1, 0, 1, 0, 0, 1, 0] (by decide +kernel) ?_; (conv => whnf); (conv => whnf); refine SLoad.on 1 rfl ?_; (conv => whnf)
      refine ⟨_, ⟨by first | omega | (simp only [List.length_cons, List.length_append, List.length_nil, List.length_map, length_aBytes, List.length_replicate, List.length_range]; omega) | fail, by exact ga⟩, ?_⟩
      (conv => whnf); refine SLoad.on 0 rfl ?_; (conv => whnf)
      refine ⟨_, ⟨by first | omega | (simp only [List.length_cons, List.length_append, List.length_nil, List.length_map, length_aBytes, List.length_replicate, List.length_range]; omega) | fail, by exact ga⟩, ?_⟩
      (conv => whnf); refine SIf.n Ty.mixed (by assumption) ?_; (conv => whnf); refine ⟨_, IntWalk.i64_in _ (by omega), ?_⟩; (conv => whnf)
      exact ⟨i + 1, by omega, by repeat (first | exact trivial | refine ⟨by first | trivial | exact Weak.refl _ | exact Weak.tok _ _ _ | exact Weak.of_eq (congrArg (AV.int _) (by omega)) | exact Weak.of_eq (congrArg AV.bool (by fail)) | exact Weak.nils _ _ (.inr rfl), ?_⟩), .refl _, by omega⟩
    · refine SCall.p (by exact known2_any w0 hL) ?_
      (conv => whnf); exact .w rfl
end Go.Proofs.YtkbmkhhcppfcnaaDoor
end
