/- The law TwoBack returns true for every input, and its arguments read as before: the tied card. No conditions. This is part 6 of 8 of its proof; the parts are read in order. No conditions. -/
import Derived.Test.YtkbmkhhcppfcnaaDoorCTwoBackP5
section
set_option linter.unusedVariables false
set_option linter.unusedSimpArgs false
set_option maxRecDepth 100000
set_option maxHeartbeats 1000000
namespace Go.Proofs.YtkbmkhhcppfcnaaDoor
open Go.Al Go.RowKit
theorem cl_nat {n : Nat} (h : n ≤ 9999999999) : cl (n : Int) = n := by unfold cl; omega
theorem parts_key (w0 : World) (hL : Laid w0) (v : Nat) (hv : v < 10) (t : UInt8) (ht : 97 ≤ t.toNat ∧ t.toNat ≤ 122) (id seq : Nat) (hid : id ≤ 9999999999) (hseq : seq ≤ 9999999999) :
    CallP Tryd.prog w0 44 [.str (rkey v t id seq)] (.tup [.int .i64 v, .int .u8 t.toNat, .int .i64 id, .int .i64 seq, .bool true]) := by
  have hk := rkey_length v t id seq
  have hA := dN_length 10 (cl id)
  have hB := dN_length 10 (cl seq)
  have i1 := atoi_dN 9 (cl id) (cl_lt _)
  have i2 := atoi_dN 9 (cl seq) (cl_lt _)
  have hc : (UInt8.ofNat (48 + v)).toNat = 48 + v := by simp; omega
  have hK := keyS_any w0 hL v hv t id seq
  have hbyte : IntKind.i64.wrap (((Al.byteOf (((UInt8.ofNat (48 + v)).toNat : Int) - 48)).toNat : Nat) : Int) = ((v : Nat) : Int) := by
    rw [sub48 (by omega), hc]; congr 1; omega
  have hv' : (UInt8.ofNat (48 + v)).toNat - 48 = v := by omega
  have e1 : ((rkey v t id seq).take (12 : Int).toNat).drop (2 : Int).toNat = dN 10 (cl id) := by
    show ((dN 10 (cl id)) ++ (dN 10 (cl seq))).take 10 = _
    rw [List.take_append_of_le_length (by omega), List.take_of_length_le (by omega)]
  have e2 : ((rkey v t id seq).take (((rkey v t id seq).length : Nat) : Int).toNat).drop (12 : Int).toNat = dN 10 (cl seq) := by
    rw [Int.toNat_natCast, List.take_length]
    show ((dN 10 (cl id)) ++ (dN 10 (cl seq))).drop 10 = _
    rw [List.drop_append_of_le_length (by omega), List.drop_of_length_le (by omega)]; rfl
  have := parts_any w0 (rkey v t id seq) (UInt8.ofNat (48 + v)) t id seq hk rfl rfl (by omega) ht (by rw [e1]; have := atoi_any w0 hL (dN 10 (cl id)) (cl id : Nat) (by omega) i1; rwa [cl_nat hid] at this ⊢) (by rw [e2]; have := atoi_any w0 hL (dN 10 (cl seq)) (cl seq : Nat) (by omega) i2; rwa [cl_nat hseq] at this ⊢) (by rw [hbyte]; exact hK)
  rwa [hv'] at this
def V0 : List UInt8 := [1, 110, 1, 35, 0, 1, 1, 0, 0]
def x0 : Sub := ⟨1, [110], [35], [], 1, 1, 0, [], [], []⟩
def z0 : Sub := ⟨0, [], [], [], 0, 0, 0, [], [], []⟩
def row0 : Row := ⟨rkey 3 115 1 0, V0⟩
theorem num1 : num 1 = [1] := by unfold num; rw [show clampN 1 = 1 from rfl, numB_small (by decide)]; rfl
theorem num0 : num 0 = [0] := by unfold num; rw [show clampN 0 = 0 from rfl, numB_small (by decide)]; rfl
theorem enc_x0 : enc3 x0 = [row0] := by
  have : subB x0 = V0 := by simp [subB, x0, txt, num1, num0, V0]
  simp [enc3, x0] at this ⊢
  rw [this]; rfl
theorem fits_x0 : Fits x0 := ⟨by decide, by decide, by decide, by decide, by decide, by decide, by simp [x0]⟩
theorem fits_z0 : Fits z0 := ⟨by decide, by decide, by decide, by decide, by decide, by decide, by simp [z0]⟩
def xA : AV := .agg [.int .i64 1, .str [110], .str [35], .str [], .int .i64 1, .int .i64 1, .int .i64 0, .nils, .nils, .str []]
def zA : AV := .agg [.int .i64 0, .str [], .str [], .str [], .int .i64 0, .int .i64 0, .int .i64 0, .nils, .nils, .str []]
theorem weak_x0 : Weak (eSub x0) xA := .agg (.cons (.refl _) (.cons (.refl _) (.cons (.refl _) (.cons (.refl _) (.cons (.refl _) (.cons (.refl _) (.cons (.refl _) (.cons (.nils _ _ (.inl rfl)) (.cons (.nils _ _ (.inl rfl)) (.cons (.refl _) .nil)))))))))) (by decide)
theorem weak_z0 : Weak (eSub z0) zA := .agg (.cons (.refl _) (.cons (.refl _) (.cons (.refl _) (.cons (.refl _) (.cons (.refl _) (.cons (.refl _) (.cons (.refl _) (.cons (.nils _ _ (.inl rfl)) (.cons (.nils _ _ (.inl rfl)) (.cons (.refl _) .nil)))))))))) (by decide)
theorem enc_xA (w0 : World) (hL : Laid w0) : CallP Tryd.prog w0 16 [xA] (.slc 2 [eRow row0] .no) := fun σ => by
  have := (encW_room w0 hL x0 fits_x0 σ).room
  rw [enc_x0] at this
  exact CallW.weak1 [] [] weak_x0 this
theorem enc_zA (w0 : World) (hL : Laid w0) : CallP Tryd.prog w0 16 [zA] (.slc 2 ((enc3 z0).map eRow) .no) := fun σ =>
  CallW.weak1 [] [] weak_z0 (encW_room w0 hL z0 fits_z0 σ).room
theorem rt (w0 : World) {b : Nat} {σ : St} (a a' : Nat) (s : List UInt8) (ha : a ≤ 10) (h : rText V0 a none 30 = (s, a', none)) (hb : σ.box b = some (rd V0 a none)) : CallW Tryd.prog w0 47 [.ptr b 0, .int .i64 30] σ (fun r s' => r = .str s ∧ s' = σ.setBox b (rd V0 a' none)) := by
  have := rtext_any w0 V0 a 30 none b σ (by decide) (by omega) (by decide) hb
  rw [h] at this
  exact this
theorem rn (w0 : World) {b : Nat} {σ : St} (a a' n : Nat) (ha : a ≤ 10) (h : rNum V0 a none = (n, a', none)) (hb : σ.box b = some (rd V0 a none)) : CallW Tryd.prog w0 45 [.ptr b 0] σ (fun r s' => r = .int .i64 n ∧ s' = σ.setBox b (rd V0 a' none)) := by
  have := rnum_any w0 V0 a none b σ (by decide) (by omega) hb
  rw [h] at this
  exact this
end Go.Proofs.YtkbmkhhcppfcnaaDoor
end
section
set_option linter.unusedVariables false
set_option linter.unusedSimpArgs false
set_option maxRecDepth 100000
set_option maxHeartbeats 2000000
namespace Go.Proofs.YtkbmkhhcppfcnaaDoor
open Go.Al Go.RowKit
def subC (x : Sub) (ta tq : Tok) : List AV := [.int .i64 x.id, .str x.name, .str x.topic, .str x.want, .int .i64 x.lease, .int .i64 x.most, .int .i64 x.floor, .slc 1 (x.acks.map (.int .i64)) ta, .slc 8 (x.queue.map eMsg) tq, .str x.note]
def msgC (m : Msg) : List AV := [.int .i64 m.seq, .str m.body, .str m.attr, .int .i64 m.tries, .int .i64 m.until_, .bool m.dead, .str m.why, .int .i64 m.prio]
theorem weak_sub (x : Sub) (ta tq : Tok) : Weak (eSub x) (.agg (subC x ta tq)) := .agg (.cons (.refl _) (.cons (.refl _) (.cons (.refl _) (.cons (.refl _) (.cons (.refl _) (.cons (.refl _) (.cons (.refl _) (.cons (.tok _ _ _) (.cons (.tok _ _ _) (.cons (.refl _) .nil)))))))))) (by simp [AV.one, eInts, eMsgs])
def z10 : List AV := [.int .i64 0, .str [], .str [], .str [], .int .i64 0, .int .i64 0, .int .i64 0, .nils, .nils, .str []]
structure InSub (σ s : St) (b8 bx : Nat) (x : Sub) (ta tq : Tok) : Prop where
  r : s.box b8 = some z10
  b : s.box bx = some (subC x ta tq)
  ma : Moves σ .full s ta
  mq : Moves σ .full s tq
  d : ∀ p, tq = .own p → ta ≠ .own p
theorem InSub.set {σ s : St} {b8 bx : Nat} {x x' : Sub} {ta tq : Tok} (h : InSub σ s b8 bx x ta tq) (hne : b8 ≠ bx) (hbx : σ.box bx = none) : InSub σ (s.setBox bx (subC x' ta tq)) b8 bx x' ta tq :=
  ⟨hb_ne hne h.r, setBox_same, h.ma.new hbx, h.mq.new hbx, h.d⟩
theorem InSub.other {σ s : St} {b8 bx b : Nat} {x : Sub} {ta tq : Tok} {cs : List AV} (h : InSub σ s b8 bx x ta tq) (h8 : b8 ≠ b) (hx : bx ≠ b) (hb : σ.box b = none) : InSub σ (s.setBox b cs) b8 bx x ta tq :=
  ⟨hb_ne h8 h.r, hb_ne hx h.b, h.ma.new hb, h.mq.new hb, h.d⟩
theorem InSub.acks {σ s σ1 : St} {b8 bx : Nat} {x x' : Sub} {ta tq tk : Tok} (h : InSub σ s b8 bx x ta tq) (hne : b8 ≠ bx) (hbx : σ.box bx = none) (hm : Moves s ta σ1 tk) : InSub σ (σ1.setBox bx (subC x' tk tq)) b8 bx x' tk tq := by
  obtain ⟨h1, h2, h3⟩ := Moves.two h.ma h.mq h.d hm
  exact ⟨hb_ne hne (hm.box _ _ h.r), setBox_same, h1.new hbx, h2.new hbx, h3⟩
theorem InSub.queue {σ s σ1 : St} {b8 bx : Nat} {x x' : Sub} {ta tq tk : Tok} (h : InSub σ s b8 bx x ta tq) (hne : b8 ≠ bx) (hbx : σ.box bx = none) (hm : Moves s tq σ1 tk) : InSub σ (σ1.setBox bx (subC x' ta tk)) b8 bx x' ta tk := by
  obtain ⟨h1, h2, h3⟩ := Moves.two h.mq h.ma (fun p e e' => h.d p e' e) hm
  exact ⟨hb_ne hne (hm.box _ _ h.r), setBox_same, h2.new hbx, h1.new hbx, fun p e e' => h3 p e' e⟩
theorem sub_any (w0 : World) (c : List UInt8) (t : Tok) (id clock next : Nat) (hc : c.length ≤ 9223372036854775807) (hid : id ≤ 1000) (hclock : clock ≤ 100000000) (hnext : 1 ≤ next ∧ next ≤ 100000) (σ : St) :
    CallW Tryd.prog w0 33 [.slc 1 (aBytes c) t, .int .i64 id, .int .i64 clock, .int .i64 next] σ (fun r s => ∃ x, r = eSub x ∧ Grown id clock next x ∧ s = σ) := by
  refine CallW.start Tryd.func33 rfl Tryd.ntmps33 (by simp) fun Q hQ => ?_
  have g0 := gL_lt c 0
  have g1 := gL_lt c 1
  have g2 := gL_lt c 2
  have g3 := gL_lt c 3
  have g4 := gL_lt c 4
  have hm0 : gL c 0 % 20 ≤ 19 := by omega
  have hlt0 := textL_len (gL c 0) 19
  refine W.seq ?_; refine W.regionL (by decide +kernel) rfl ?_; apply r_alloc; exact rfl; exact rfl; decide; exact rfl; (conv => (lhs; whnf)); intro b1 hb1; refine runs_done ?_; show W _ _ _ _ _ _ _
  obtain ⟨tp, htp, htl⟩ : ∃ v : List UInt8, [AV.str [35], .str [97], .str [97, 47, 43], .str [98, 47, 35]][((gL c 1 : Int) % 4).toNat]? = some (.str v) ∧ TopicOk v := by
    have h : gL c 1 % 4 < 4 := Nat.mod_lt _ (by decide)
    rw [show ((gL c 1 : Int) % 4).toNat = gL c 1 % 4 by omega]
    generalize gL c 1 % 4 = q at h
    match q, h with
    | 0, _ => exact ⟨_, rfl, .inl rfl⟩
    | 1, _ => exact ⟨_, rfl, .inr (.inl rfl)⟩
    | 2, _ => exact ⟨_, rfl, .inr (.inr (.inl rfl))⟩
    | 3, _ => exact ⟨_, rfl, .inr (.inr (.inr rfl))⟩
  obtain ⟨wn, hwn, hwl⟩ : ∃ v : List UInt8, [AV.str [], .str [97, 61, 49], .str [97, 61, 49, 44, 98, 61, 50]][((gL c 1 : Int) / 4 % 3).toNat]? = some (.str v) ∧ WantOk v := by
    have h : gL c 1 / 4 % 3 < 3 := Nat.mod_lt _ (by decide)
    rw [show ((gL c 1 : Int) / 4 % 3).toNat = gL c 1 / 4 % 3 by omega]
    generalize gL c 1 / 4 % 3 = q at h
    match q, h with
    | 0, _ => exact ⟨_, rfl, .inl rfl⟩
    | 1, _ => exact ⟨_, rfl, .inr (.inl rfl)⟩
    | 2, _ => exact ⟨_, rfl, .inr (.inr rfl)⟩
  refine W.seq ?_; refine W.regionDK 0 [] Ty.mixed (by decide +kernel) (by decide +kernel) rfl ?_; apply r_op; exact rfl; exact rfl; apply a_move; (conv => (lhs; whnf)); apply r_op; exact rfl; exact rfl; apply a_move; (conv => (lhs; whnf)); apply r_callP; exact rfl; exact rfl; exact rfl; exact rfl; exact rfl; infer_instance; exact g_any w0 c t 0; apply r_callP; exact rfl; exact rfl; exact rfl
  exact rfl; exact rfl; infer_instance; exact lawtext_any w0 (gL c 0) 19 (by omega) (by omega); apply r_op; exact rfl; exact rfl; apply g_binOp; exact a_addS rfl rfl (by simp only [length_aBytes, List.length_append, List.length_cons, List.length_nil, List.length_map, List.length_range]; omega); apply r_op; exact rfl; exact rfl; apply g_buildSlice; apply a_buildN
  apply EvP.cons (by (conv => (lhs; whnf))); apply EvP.cons (by (conv => (lhs; whnf))); apply EvP.cons (by (conv => (lhs; whnf))); apply EvP.cons (by (conv => (lhs; whnf))); exact EvP.nil; (conv => (lhs; whnf)); exact rfl; exact rfl; decide; apply r_op; exact rfl; exact rfl; apply a_move; (conv => (lhs; whnf)); apply r_callP; exact rfl; exact rfl; exact rfl; exact rfl; exact rfl; infer_instance
  exact g_any w0 c t 1; apply r_op; exact rfl; exact rfl; apply g_binOp; exact a_rem rfl rfl (by omega); apply r_op; exact rfl; exact rfl; apply g_indexAddr; exact a_indexAddr rfl rfl (by decide) (by omega) (by assumption); apply r_op; exact rfl; exact rfl; apply g_load; exact a_load1 rfl rfl; apply r_op; exact rfl; exact rfl; apply g_buildSlice; apply a_buildN
  apply EvP.cons (by (conv => (lhs; whnf))); apply EvP.cons (by (conv => (lhs; whnf))); apply EvP.cons (by (conv => (lhs; whnf))); exact EvP.nil; (conv => (lhs; whnf)); exact rfl; exact rfl; decide; apply r_op; exact rfl; exact rfl; apply a_move; (conv => (lhs; whnf)); apply r_callP; exact rfl; exact rfl; exact rfl; exact rfl; exact rfl; infer_instance; exact g_any w0 c t 1; apply r_op; exact rfl
  exact rfl; apply g_binOp; exact a_quo64 rfl rfl (by omega); apply r_op; exact rfl; exact rfl; apply g_binOp; exact a_rem rfl rfl (by omega); apply r_op; exact rfl; exact rfl; apply g_indexAddr; exact a_indexAddr rfl rfl (by decide) (by omega) (by assumption); apply r_op; exact rfl; exact rfl; apply g_load; exact a_load1 rfl rfl; apply r_op; exact rfl; exact rfl; apply a_move
  (conv => (lhs; whnf)); apply r_callP; exact rfl; exact rfl; exact rfl; exact rfl; exact rfl; infer_instance; exact g_any w0 c t 2; apply r_op; exact rfl; exact rfl; apply g_binOp; exact a_mul64 rfl rfl (by omega); apply r_op; exact rfl; exact rfl; apply g_binOp; exact a_add64 rfl rfl (by omega); apply r_op; exact rfl; exact rfl; apply a_move; (conv => (lhs; whnf)); apply r_callP; exact rfl
  exact rfl; exact rfl; exact rfl; exact rfl; infer_instance; exact g_any w0 c t 3; apply r_op; exact rfl; exact rfl; apply g_binOp; exact a_rem rfl rfl (by omega); apply r_op; exact rfl; exact rfl; apply g_binOp; exact a_add64 rfl rfl (by omega); apply r_op; exact rfl; exact rfl; apply a_move; (conv => (lhs; whnf)); apply r_callP; exact rfl; exact rfl; exact rfl; exact rfl; exact rfl
  infer_instance; exact g_any w0 c t 4; apply r_op; exact rfl; exact rfl; apply a_move; (conv => (lhs; whnf)); apply r_op; exact rfl; exact rfl; apply g_binOp; exact a_rem rfl rfl (by omega); apply r_op; exact rfl; exact rfl; apply g_build; apply a_build; apply EvP.cons (by (conv => (lhs; whnf))); apply EvP.cons (by (conv => (lhs; whnf))); apply EvP.cons (by (conv => (lhs; whnf)))
  apply EvP.cons (by (conv => (lhs; whnf))); apply EvP.cons (by (conv => (lhs; whnf))); apply EvP.cons (by (conv => (lhs; whnf))); apply EvP.cons (by (conv => (lhs; whnf))); exact EvP.nil
  simp only [aFill, List.getElem?_cons_zero, List.getElem?_cons_succ, AV.cells, List.length_cons, List.length_nil, AV.flat, AV.one, setL, List.set_cons_zero, List.set_cons_succ, Nat.reduceAdd, Nat.reduceLeDiff, Nat.reduceMul, and_self, if_true, ↓reduceIte, Nat.zero_add, Nat.le_refl, List.range, List.range.loop, List.map_cons, List.map_nil, Nat.zero_le]
  rfl; apply r_alloc; exact rfl; exact rfl; decide; exact rfl; (conv => (lhs; whnf)); intro b1 hb1; apply r_store; exact rfl; exact rfl; exact rfl; decide; infer_instance; exact rfl; exact setBox_same; (conv => (lhs; whnf)); exact rfl; (conv => (lhs; whnf)); exact rfl; exact of_decide_eq_true rfl; exact setL_whole rfl; refine runs_done ?_; show W _ _ _ _ _ _ _
  rename_i b8 hb8
  have hne : b8 ≠ b1 := ne_none' hb1
  have hbx : σ.box b1 = none := none_in hb1
  generalize b1 = bx at hne hbx hb1 ⊢
  generalize hx1 : (⟨id, [110] ++ textL (gL c 0) 19, tp, wn, 1 + (gL c 2 : Int) * 3, 1 + (gL c 3 : Int) % 9, (gL c 4 : Int) % (next : Int), [], [], []⟩ : Sub) = x1
  have hs1 : InSub σ (((σ.setBox b8 z10).setBox bx z10).setBox bx (subC x1 .full .full)) b8 bx x1 .full .full := by
    rw [setBox_setBox]
    exact ⟨hb_ne hne setBox_same, setBox_same, ((Moves.full σ).new hb8).new hbx, ((Moves.full σ).new hb8).new hbx, fun p e => by cases e⟩
  have hgr : Grown id clock next x1 := by
    subst hx1
    refine ⟨⟨gL c 0, g0, rfl⟩, htl, hwl, by simp, rfl, ?_, ?_, ?_, by simp, by simp, trivial, by simp, trivial, by simp, by simp, by simp⟩
    · show 1 ≤ 1 + (gL c 3 : Int) % 9 ∧ 1 + (gL c 3 : Int) % 9 ≤ 9; omega
    · show 1 ≤ 1 + (gL c 2 : Int) * 3 ∧ 1 + (gL c 2 : Int) * 3 ≤ 1000; omega
    · exact ⟨Int.emod_nonneg _ (by omega), Int.emod_lt_of_pos _ (by omega)⟩
  have hup : UpTo x1 x1.floor := by subst hx1; exact ⟨Int.le_refl _, by simp, by simp⟩
  refine W.weakBox (b := bx) (ds := subC x1 .full .full) setBox_same ?_ ?_
  · subst hx1
    exact .cons (.refl _) (.cons (.refl _) (.cons (.refl _) (.cons (.refl _) (.cons (.refl _) (.cons (.refl _) (.cons (.refl _) (.cons (.nils 1 .full (.inr rfl)) (.cons (.nils 8 .full (.inr rfl)) (.cons (.refl _) .nil)))))))))
  rw [setBox_setBox, setBox_setBox]
  rw [setBox_setBox] at hs1
  change W Tryd.prog w0 _ _ _ _ ((σ.setBox b8 z10).setBox bx (subC x1 .full .full))
  generalize (σ.setBox b8 z10).setBox bx (subC x1 .full .full) = s1 at hs1 ⊢
  have hlt5 := textL_len (gL c 5) 30
  have g5 := gL_lt c 5
  refine W.seq ?_; refine W.meet (fun E s => ∃ x, Grown id clock next x ∧ UpTo x x.floor ∧ InSub σ s b8 bx x .full .full ∧ Has [(0, .slc 1 (aBytes c) t), (2, .int .i64 clock), (3, .int .i64 next), (8, .ptr b8 0), (9, .ptr bx 0)] E) ?_ ?_
  · have hb1 := hs1.b
    refine W.seq ?_; refine W.regionL (by decide +kernel) rfl ?_; apply r_op; exact rfl; exact rfl; apply a_move; (conv => (lhs; whnf)); apply r_callP; exact rfl; exact rfl; exact rfl; exact rfl; exact rfl; infer_instance; exact g_any w0 c t 5; apply r_op; exact rfl; exact rfl; apply g_binOp; exact a_binI rfl rfl rfl; (with_reducible refine runs_done ?_)
    refine W.cond rfl (fun hc => ?_) (fun hc => ?_)
    · refine W.regionL (by decide +kernel) rfl ?_
      apply r_op; exact rfl; exact rfl; apply a_move; (conv => (lhs; whnf)); apply r_callP; exact rfl; exact rfl; exact rfl; exact rfl; exact rfl; infer_instance; exact g_any w0 c t 5; apply r_callP; exact rfl; exact rfl; exact rfl; exact rfl; exact rfl; infer_instance; exact lawtext_any w0 (gL c 5) 30 (by omega) (by omega); apply r_op; exact rfl; exact rfl; apply g_fieldAddr
      exact a_fieldAddrP rfl (by decide); apply r_store; exact rfl; exact rfl; exact rfl; decide; infer_instance; exact rfl; assumption; (conv => (lhs; whnf)); exact rfl; (conv => (lhs; whnf)); exact rfl; exact of_decide_eq_true rfl; exact rfl; (with_reducible refine runs_done ?_)
      exact ⟨{ x1 with note := textL (gL c 5) 30 }, hgr.withNote hlt5, ⟨hup.floor, hup.acks, hup.queue⟩, hs1.set (x' := { x1 with note := textL (gL c 5) 30 }) hne hbx, by exact Has.by (by repeat (first | exact trivial | refine ⟨by first | trivial | exact Weak.refl _ | exact Weak.tok _ _ _ | exact Weak.of_eq (congrArg (AV.int _) (by omega)) | exact Weak.nils _ _ (.inr rfl), ?_⟩))⟩
    · refine W.skip ?_
      exact ⟨x1, hgr, hup, hs1, by exact Has.by (by repeat (first | exact trivial | refine ⟨by first | trivial | exact Weak.refl _ | exact Weak.tok _ _ _ | exact Weak.of_eq (congrArg (AV.int _) (by omega)) | exact Weak.nils _ _ (.inr rfl), ?_⟩))⟩
  · rintro E s ⟨x, hgr, hup, hs, hE⟩
    refine W.has hE ?_; clear hE hs1
    have hb := hs.b
    refine W.seq ?_; refine W.regionL (by decide +kernel) rfl ?_; apply r_op; exact rfl; exact rfl; apply g_fieldAddr; exact a_fieldAddrP rfl (by decide); apply r_load; exact rfl; exact rfl; exact rfl; decide; exact rfl; assumption; exact aLoad1 rfl; apply r_op; exact rfl; exact rfl; apply a_assign; (conv => (lhs; whnf)); refine runs_done ?_; show W _ _ _ _ _ _ _; refine W.seq ?_
    refine W.meet (fun E s => ∃ x ta tq, Grown id clock next x ∧ InSub σ s b8 bx x ta tq ∧ Has [(8, .ptr b8 0), (9, .ptr bx 0)] E) ?_ ?_
    · refine W.seq ?_
      refine W.regionL (by decide +kernel) rfl ?_; apply r_op; exact rfl; exact rfl; apply a_assign; (conv => (lhs; whnf)); (with_reducible refine runs_done ?_); refine W.block ?_
      refine W.loop (fun k E s => ∃ (i : Nat) (seq : Int) (x : Sub) (ta tq : Tok), k = 100 - i ∧ 6 ≤ i ∧ i ≤ 69 ∧ 0 ≤ seq ∧ seq < next ∧ Grown id clock next x ∧ UpTo x seq ∧ InSub σ s b8 bx x ta tq ∧ Has [(0, .slc 1 (aBytes c) t), (2, .int .i64 clock), (3, .int .i64 next), (8, .ptr b8 0), (9, .ptr bx 0), (10, .int .i64 seq), (11, .int .i64 i)] E) 94 ⟨6, x.floor, x, .full, .full, rfl, by omega, by omega, hgr.floor.1, hgr.floor.2, hgr, hup, hs, by exact Has.by (by repeat (first | exact trivial | refine ⟨by first | trivial | exact Weak.refl _ | exact Weak.tok _ _ _ | exact Weak.of_eq (congrArg (AV.int _) (by omega)) | exact Weak.nils _ _ (.inr rfl), ?_⟩))⟩ ?_
      clear hup hs hb hgr x; rintro k E s ⟨i, seq, x, ta, tq, rfl, hi6, hi69, hs0, hsn, hgr, hup, hs, hE⟩; refine W.has hE ?_; clear hE
      have hb := hs.b
      have hla := length_aBytes c
      by_cases hlen : ¬ (i + 3 < c.length)
      · have d1 : decide ((i : Int) + 3 < ((aBytes c).length : Int)) = false := decide_eq_false (by rw [hla]; omega)
        refine W.seq ?_; refine W.seq ?_; refine W.regionL (by decide +kernel) rfl ?_; apply r_op; exact rfl; exact rfl; apply a_move; (conv => (lhs; whnf)); apply r_op; exact rfl; exact rfl; apply g_binOp; exact a_add64 rfl rfl (by omega); apply r_op; exact rfl; exact rfl; apply a_move; (conv => (lhs; whnf)); apply r_op; exact rfl; exact rfl; apply g_call; exact a_len_slc rfl; apply r_op
        exact rfl; exact rfl; apply g_binOp; exact a_binI rfl rfl rfl; apply r_op; exact rfl; exact rfl; apply a_move; (conv => (lhs; whnf)); apply q_skip; exact rfl; exact want_f rfl rfl rfl (by assumption); apply q_skip; exact rfl; exact want_f rfl rfl rfl (by assumption); apply r_op; exact rfl; exact rfl; apply g_pick; apply a_pickF rfl (by assumption); (conv => (lhs; whnf))
        (with_reducible refine runs_done ?_); refine W.condF rfl (by exact rfl) ?_; refine W.exit ?_
        exact ⟨x, ta, tq, hgr, hs, by exact Has.by (by repeat (first | exact trivial | refine ⟨by first | trivial | exact Weak.refl _ | exact Weak.tok _ _ _ | exact Weak.of_eq (congrArg (AV.int _) (by omega)) | exact Weak.nils _ _ (.inr rfl), ?_⟩))⟩
      have hlen := Decidable.of_not_not hlen
      have d1 : decide ((i : Int) + 3 < ((aBytes c).length : Int)) = true := decide_eq_true (by rw [hla]; omega)
      by_cases h66 : ¬ (i < 66)
      · have d2 : decide ((i : Int) < 66) = false := decide_eq_false (by omega)
        refine W.seq ?_; refine W.seq ?_; refine W.regionL (by decide +kernel) rfl ?_; apply r_op; exact rfl; exact rfl; apply a_move; (conv => (lhs; whnf)); apply r_op; exact rfl; exact rfl; apply g_binOp; exact a_add64 rfl rfl (by omega); apply r_op; exact rfl; exact rfl; apply a_move; (conv => (lhs; whnf)); apply r_op; exact rfl; exact rfl; apply g_call; exact a_len_slc rfl; apply r_op
        exact rfl; exact rfl; apply g_binOp; exact a_binI rfl rfl rfl; apply r_op; exact rfl; exact rfl; apply a_move; (conv => (lhs; whnf)); apply r_op; exact rfl; exact want_t rfl rfl rfl (by assumption); apply a_move; (conv => (lhs; whnf)); apply r_op; exact rfl; exact want_t rfl rfl rfl (by assumption); apply g_binOp; exact a_binI rfl rfl rfl; apply r_op; exact rfl; exact rfl; apply g_pick
        apply a_pickT rfl (by assumption); (conv => (lhs; whnf)); (with_reducible refine runs_done ?_); refine W.condF rfl (by assumption) ?_; refine W.exit ?_
        exact ⟨x, ta, tq, hgr, hs, by exact Has.by (by repeat (first | exact trivial | refine ⟨by first | trivial | exact Weak.refl _ | exact Weak.tok _ _ _ | exact Weak.of_eq (congrArg (AV.int _) (by omega)) | exact Weak.nils _ _ (.inr rfl), ?_⟩))⟩
      have h66 := Decidable.of_not_not h66
      have d2 : decide ((i : Int) < 66) = true := decide_eq_true (by omega)
      obtain ⟨q0, gi0⟩ : ∃ q : UInt8, c[((i : Int)).toNat]? = some q := ⟨c[i]'(by omega), by simp⟩
      obtain ⟨q1, gi1⟩ : ∃ q : UInt8, c[((i : Int) + 1).toNat]? = some q := ⟨c[i + 1]'(by omega), by rw [show ((i : Int) + 1).toNat = i + 1 by omega]; simp⟩
      obtain ⟨q2, gi2⟩ : ∃ q : UInt8, c[((i : Int) + 2).toNat]? = some q := ⟨c[i + 2]'(by omega), by rw [show ((i : Int) + 2).toNat = i + 2 by omega]; simp⟩
      obtain ⟨q3, gi3⟩ : ∃ q : UInt8, c[((i : Int) + 3).toNat]? = some q := ⟨c[i + 3]'(by omega), by rw [show ((i : Int) + 3).toNat = i + 3 by omega]; simp⟩
      have l0 := q0.toNat_lt
      have l1 := q1.toNat_lt
      have l2 := q2.toNat_lt
      have l3 := q3.toNat_lt
      have w0' : IntKind.i64.wrap ((q0.toNat : Int) % 3) = (q0.toNat : Int) % 3 := IntWalk.i64_in _ (by omega)
      have w1 : IntKind.i64.wrap (q1.toNat : Int) = (q1.toNat : Int) := IntWalk.i64_in _ (by omega)
      have w2 : IntKind.i64.wrap (q2.toNat : Int) = (q2.toNat : Int) := IntWalk.i64_in _ (by omega)
      have w3 : IntKind.i64.wrap (q3.toNat : Int) = (q3.toNat : Int) := IntWalk.i64_in _ (by omega)
      have hmost := hgr.most
      have hlease := hgr.lease
      have hml := Int.emod_nonneg (IntKind.i64.wrap (q1.toNat : Int)) (show x.lease ≠ 0 by omega)
      have hml2 := Int.emod_lt_of_pos (IntKind.i64.wrap (q1.toNat : Int)) (show 0 < x.lease by omega)
      have hmm := Int.emod_nonneg (IntKind.i64.wrap (q3.toNat : Int)) (show x.most ≠ 0 by omega)
      have hmm2 := Int.emod_lt_of_pos (IntKind.i64.wrap (q3.toNat : Int)) (show 0 < x.most by omega)
      have ht60 : CallP Tryd.prog w0 82 [.int .i64 (IntKind.i64.wrap (q1.toNat : Int)), .int .i64 60] (.str (textL q1.toNat 60)) := by
        rw [w1]; exact lawtext_any w0 q1.toNat 60 (by omega) (by omega)
      have hl60 := textL_len q1.toNat 60
      obtain ⟨at_, hat, hatl⟩ : ∃ v : List UInt8, [AV.str [], .str [97, 61, 49], .str [98, 61, 50]][((q2.toNat : Int) % 3).toNat]? = some (.str v) ∧ (v = [] ∨ v = [97, 61, 49] ∨ v = [98, 61, 50]) := by
        have h : q2.toNat % 3 < 3 := Nat.mod_lt _ (by decide)
        rw [show ((q2.toNat : Int) % 3).toNat = q2.toNat % 3 by omega]
        generalize q2.toNat % 3 = q at h
        match q, h with
        | 0, _ => exact ⟨_, rfl, .inl rfl⟩
        | 1, _ => exact ⟨_, rfl, .inr (.inl rfl)⟩
        | 2, _ => exact ⟨_, rfl, .inr (.inr rfl)⟩
      obtain ⟨wy, hwy, hwyl⟩ : ∃ v : List UInt8, [AV.str [110, 97, 99, 107], .str [116, 105, 109, 101]][((q1.toNat : Int) % 2).toNat]? = some (.str v) ∧ (v = [110, 97, 99, 107] ∨ v = [116, 105, 109, 101]) := by
        have h : q1.toNat % 2 < 2 := Nat.mod_lt _ (by decide)
        rw [show ((q1.toNat : Int) % 2).toNat = q1.toNat % 2 by omega]
        generalize q1.toNat % 2 = q at h
        match q, h with
        | 0, _ => exact ⟨_, rfl, .inl rfl⟩
        | 1, _ => exact ⟨_, rfl, .inr rfl⟩
      have hnq := hgr.nqueue
      have hna := hgr.nacks
      refine W.seq ?_; refine W.seq ?_; refine W.regionL (by decide +kernel) rfl ?_; apply r_op; exact rfl; exact rfl; apply a_move; (conv => (lhs; whnf)); apply r_op; exact rfl; exact rfl; apply g_binOp; exact a_add64 rfl rfl (by omega); apply r_op; exact rfl; exact rfl; apply a_move; (conv => (lhs; whnf)); apply r_op; exact rfl; exact rfl; apply g_call; exact a_len_slc rfl; apply r_op; exact rfl
      exact rfl; apply g_binOp; exact a_binI rfl rfl rfl; apply r_op; exact rfl; exact rfl; apply a_move; (conv => (lhs; whnf)); apply r_op; exact rfl; exact want_t rfl rfl rfl (by assumption); apply a_move; (conv => (lhs; whnf)); apply r_op; exact rfl; exact want_t rfl rfl rfl (by assumption); apply g_binOp; exact a_binI rfl rfl rfl; apply r_op; exact rfl; exact rfl; apply g_pick
      apply a_pickT rfl (by assumption); (conv => (lhs; whnf)); (with_reducible refine runs_done ?_); refine W.condT rfl (by assumption) ?_; refine W.skip ?_; show W _ _ _ _ _ _ _; refine W.seq ?_; refine W.block ?_; refine W.seq ?_; refine W.regionL (by decide +kernel) rfl ?_; apply r_op; exact rfl; exact rfl; apply a_move; (conv => (lhs; whnf)); apply r_op; exact rfl; exact rfl; apply a_move
      (conv => (lhs; whnf)); apply r_op; exact rfl; exact rfl; apply a_move; (conv => (lhs; whnf)); apply r_op; exact rfl; exact rfl; apply g_indexAddr; exact a_indexAddr rfl rfl (by decide) (by omega) (by exact get_bytes (by assumption)); apply r_op; exact rfl; exact rfl; apply g_load; exact a_load1 rfl rfl; apply r_op; exact rfl; exact rfl; apply g_binOp; exact a_rem rfl rfl (by omega)
      apply r_op; exact rfl; exact rfl; apply g_convert; exact a_convI rfl; apply r_op; exact rfl; exact rfl; apply g_binOp; exact a_add64 rfl rfl (by omega); apply r_op; exact rfl; exact rfl; apply g_binOp; exact a_add64 rfl rfl (by omega); apply r_op; exact rfl; exact rfl; apply a_assign; (conv => (lhs; whnf)); (with_reducible refine runs_done ?_); refine W.seq ?_; refine W.seq ?_
      refine W.regionL (by decide +kernel) rfl ?_; apply r_op; exact rfl; exact rfl; apply a_move; (conv => (lhs; whnf)); apply r_op; exact rfl; exact rfl; apply a_move; (conv => (lhs; whnf)); apply r_op; exact rfl; exact rfl; apply g_binOp; exact a_binI rfl rfl rfl; (with_reducible refine runs_done ?_); refine W.cond rfl (fun hc => ?_) (fun hc => ?_)
      · refine W.exit ?_
        exact ⟨x, ta, tq, hgr, hs, by exact Has.by (by repeat (first | exact trivial | refine ⟨by first | trivial | exact Weak.refl _ | exact Weak.tok _ _ _ | exact Weak.of_eq (congrArg (AV.int _) (by omega)) | exact Weak.nils _ _ (.inr rfl), ?_⟩))⟩
      have hsq : seq + (1 + IntKind.i64.wrap ((q0.toNat : Int) % 3)) < next := by have := of_decide_eq_false hc; omega
      have hsq0 : 0 ≤ seq + (1 + IntKind.i64.wrap ((q0.toNat : Int) % 3)) := by omega
      have hsq1 : seq < seq + (1 + IntKind.i64.wrap ((q0.toNat : Int) % 3)) := by omega
      generalize seq + (1 + IntKind.i64.wrap ((q0.toNat : Int) % 3)) = seq1 at hsq hsq0 hsq1 ⊢
      clear hc; refine W.skip ?_; show W _ _ _ _ _ _ _; refine W.seq ?_; refine W.meet (fun E s' => s' = s ∧ Has [(0, .slc 1 (aBytes c) t), (2, .int .i64 clock), (3, .int .i64 next), (8, .ptr b8 0), (9, .ptr bx 0), (10, .int .i64 seq1), (11, .int .i64 i)] E) ?_ ?_
      · have hm0 := Moves.refl hs.ma.room
        refine W.seq ?_; refine W.regionL (by decide +kernel) rfl ?_; apply r_op; exact rfl; exact rfl; apply a_move; (conv => (lhs; whnf)); apply r_op; exact rfl; exact rfl; apply a_move; (conv => (lhs; whnf)); apply r_op; exact rfl; exact rfl; apply g_indexAddr; exact a_indexAddr rfl rfl (by decide) (by omega) (by exact get_bytes (by assumption)); apply r_op; exact rfl; exact rfl; apply g_load
        exact a_load1 rfl rfl; apply r_op; exact rfl; exact rfl; apply g_binOp; exact a_binI rfl rfl rfl; apply r_op; exact rfl; exact rfl; apply a_move; (conv => (lhs; whnf)); refine q_split rfl rfl rfl (fun hg => ?_) (fun hg => ?_); apply r_op; exact rfl; exact want_t rfl rfl rfl (by assumption); apply g_fieldAddr; exact a_fieldAddrP rfl (by decide); apply r_load; exact rfl; exact rfl; exact rfl
        decide; exact want_t rfl rfl rfl (by assumption); assumption; exact aLoad1 rfl; apply r_op; exact rfl; exact want_t rfl rfl rfl (by assumption); apply g_call; exact a_len_slc rfl; apply r_op; exact rfl; exact want_t rfl rfl rfl (by assumption); apply g_binOp; exact a_binI rfl rfl rfl; apply r_op; exact rfl; exact rfl; apply g_pick; apply a_pickT rfl (by assumption); (conv => (lhs; whnf))
        (with_reducible refine runs_done ?_); refine W.cond rfl (fun hc => ?_) (fun hc => ?_); refine W.seq ?_; refine W.regionL (by decide +kernel) rfl ?_; apply r_op; exact rfl; exact rfl; apply g_fieldAddr; exact a_fieldAddrP rfl (by decide); apply r_load; exact rfl; exact rfl; exact rfl; decide; exact rfl; assumption; exact aLoad1 rfl; apply r_op; exact rfl; exact rfl; apply a_move
        (conv => (lhs; whnf)); apply r_op; exact rfl; exact rfl; apply g_buildSlice; apply a_build1; (conv => (lhs; whnf)); exact rfl; exact rfl; decide; apply r_append'; exact rfl; exact rfl; decide; infer_instance; exact rfl; exact rfl; exact rfl; exact rfl; exact rfl; assumption
        simp only [length_aBytes, List.length_append, List.length_cons, List.length_nil, List.length_map, List.length_range]
        omega; intro tk1 σ1 hm; apply r_op; exact rfl; exact rfl; apply g_fieldAddr; exact a_fieldAddrP rfl (by decide); apply r_store; exact rfl; exact rfl; exact rfl; decide; infer_instance; exact rfl; apply hb_moves (by assumption); assumption; (conv => (lhs; whnf)); exact rfl; (conv => (lhs; whnf)); exact rfl; exact of_decide_eq_true rfl; exact rfl; (with_reducible refine runs_done ?_)
        refine W.exit ?_; show W _ _ _ _ _ _ _; refine W.regionL (by decide +kernel) rfl ?_; apply r_op; exact rfl; exact rfl; apply a_move; (conv => (lhs; whnf)); apply r_op; exact rfl; exact rfl; apply g_binOp; exact a_add64 rfl rfl (by omega); apply r_op; exact rfl; exact rfl; apply a_assign; (conv => (lhs; whnf)); (with_reducible refine runs_done ?_); rotate_left; refine W.skip ?_; rotate_left
        apply q_skip; exact rfl; exact want_f rfl rfl rfl (by assumption); apply q_skip; exact rfl; exact want_f rfl rfl rfl (by assumption); apply q_skip; exact rfl; exact want_f rfl rfl rfl (by assumption); apply q_skip; exact rfl; exact want_f rfl rfl rfl (by assumption); apply r_op; exact rfl; exact rfl; apply g_pick; apply a_pickF rfl (by assumption); (conv => (lhs; whnf))
        (with_reducible refine runs_done ?_); refine W.condF rfl (by exact rfl) ?_; refine W.skip ?_; rotate_left
        · have hq20 : x.acks.length < 20 := by have := of_decide_eq_true hc; simp at this; omega
          have h9 := hs.acks (x' := { x with acks := x.acks ++ [seq1] }) hne hbx hm
          simp only [subC, List.map_append, List.map_cons, List.map_nil] at h9
          obtain ⟨k1, k2⟩ := hgr.ack hup hsq1 hsq hq20
          exact ⟨100 - (i + 4), by omega, i + 4, seq1, { x with acks := x.acks ++ [seq1] }, tk1, tq, rfl, by omega, by omega, hsq0, hsq, k1, k2, h9, by exact Has.by (by repeat (first | exact trivial | refine ⟨by first | trivial | exact Weak.refl _ | exact Weak.tok _ _ _ | exact Weak.of_eq (congrArg (AV.int _) (by omega)) | exact Weak.nils _ _ (.inr rfl), ?_⟩))⟩
        · exact ⟨rfl, by exact Has.by (by repeat (first | exact trivial | refine ⟨by first | trivial | exact Weak.refl _ | exact Weak.tok _ _ _ | exact Weak.of_eq (congrArg (AV.int _) (by omega)) | exact Weak.nils _ _ (.inr rfl), ?_⟩))⟩
        · exact ⟨rfl, by exact Has.by (by repeat (first | exact trivial | refine ⟨by first | trivial | exact Weak.refl _ | exact Weak.tok _ _ _ | exact Weak.of_eq (congrArg (AV.int _) (by omega)) | exact Weak.nils _ _ (.inr rfl), ?_⟩))⟩
      · rintro E s' ⟨rfl, hE⟩
        refine W.has hE ?_; clear hE; refine W.seq ?_; refine W.seq ?_; refine W.regionL (by decide +kernel) rfl ?_; apply r_op; exact rfl; exact rfl; apply g_fieldAddr; exact a_fieldAddrP rfl (by decide); apply r_load; exact rfl; exact rfl; exact rfl; decide; exact rfl; assumption; exact aLoad1 rfl; apply r_op; exact rfl; exact rfl; apply g_call; exact a_len_slc rfl; apply r_op; exact rfl
        exact rfl; apply g_binOp; exact a_binI rfl rfl rfl; (with_reducible refine runs_done ?_); refine W.cond rfl (fun hc => ?_) (fun hc => ?_)
        · refine W.exit ?_
          exact ⟨x, ta, tq, hgr, hs, by exact Has.by (by repeat (first | exact trivial | refine ⟨by first | trivial | exact Weak.refl _ | exact Weak.tok _ _ _ | exact Weak.of_eq (congrArg (AV.int _) (by omega)) | exact Weak.nils _ _ (.inr rfl), ?_⟩))⟩
        have hq30 : x.queue.length < 30 := by have := of_decide_eq_false hc; simp at this; omega
        clear hc; refine W.skip ?_; show W _ _ _ _ _ _ _; refine W.seq ?_; refine W.regionDK 0 [] Ty.mixed (by decide +kernel) (by decide +kernel) rfl ?_; apply r_op; exact rfl; exact rfl; apply a_move; (conv => (lhs; whnf)); apply r_op; exact rfl; exact rfl; apply a_move; (conv => (lhs; whnf)); apply r_op; exact rfl; exact rfl; apply a_move; (conv => (lhs; whnf)); apply r_op; exact rfl; exact rfl
        apply g_binOp; exact a_add64 rfl rfl (by omega); apply r_op; exact rfl; exact rfl; apply g_indexAddr; exact a_indexAddr rfl rfl (by decide) (by omega) (by exact get_bytes (by assumption)); apply r_op; exact rfl; exact rfl; apply g_load; exact a_load1 rfl rfl; apply r_op; exact rfl; exact rfl; apply g_convert; exact a_convI rfl; apply r_callP; exact rfl; exact rfl; exact rfl; exact rfl
        exact rfl; infer_instance; exact ht60; apply r_op; exact rfl; exact rfl; apply g_buildSlice; apply a_buildN; apply EvP.cons (by (conv => (lhs; whnf))); apply EvP.cons (by (conv => (lhs; whnf))); apply EvP.cons (by (conv => (lhs; whnf))); exact EvP.nil; (conv => (lhs; whnf)); exact rfl; exact rfl; decide; apply r_op; exact rfl; exact rfl; apply a_move; (conv => (lhs; whnf)); apply r_op
        exact rfl; exact rfl; apply a_move; (conv => (lhs; whnf)); apply r_op; exact rfl; exact rfl; apply g_binOp; exact a_add64 rfl rfl (by omega); apply r_op; exact rfl; exact rfl; apply g_indexAddr; exact a_indexAddr rfl rfl (by decide) (by omega) (by exact get_bytes (by assumption)); apply r_op; exact rfl; exact rfl; apply g_load; exact a_load1 rfl rfl; apply r_op; exact rfl; exact rfl
        apply g_binOp; exact a_rem rfl rfl (by omega); apply r_op; exact rfl; exact rfl; apply g_indexAddr; exact a_indexAddr rfl rfl (by decide) (by omega) (by assumption); apply r_op; exact rfl; exact rfl; apply g_load; exact a_load1 rfl rfl; apply r_op; exact rfl; exact rfl; apply g_build; apply a_build; apply EvP.cons (by (conv => (lhs; whnf))); apply EvP.cons (by (conv => (lhs; whnf)))
        apply EvP.cons (by (conv => (lhs; whnf))); exact EvP.nil
        simp only [aFill, List.getElem?_cons_zero, List.getElem?_cons_succ, AV.cells, List.length_cons, List.length_nil, AV.flat, AV.one, setL, List.set_cons_zero, List.set_cons_succ, Nat.reduceAdd, Nat.reduceLeDiff, Nat.reduceMul, and_self, if_true, ↓reduceIte, Nat.zero_add, Nat.le_refl, List.range, List.range.loop, List.map_cons, List.map_nil, Nat.zero_le]
        rfl; apply r_alloc; exact rfl; exact rfl; decide; exact rfl; (conv => (lhs; whnf)); intro b1 hb1; apply r_store; exact rfl; exact rfl; exact rfl; decide; infer_instance; exact rfl; exact setBox_same; (conv => (lhs; whnf)); exact rfl; (conv => (lhs; whnf)); exact rfl; exact of_decide_eq_true rfl; exact setL_whole rfl; refine runs_done ?_; show W _ _ _ _ _ _ _
        generalize b1 = b12 at hb1 ⊢
        have hb12 : s'.box b12 = none := hb1
        clear hb1
        have hσ12 := none_moves hs.ma hb12
        have h812 : b8 ≠ b12 := (ne_some hs.r hb12).symm
        have hx12 : bx ≠ b12 := (ne_some hs.b hb12).symm
        have h12x : b12 ≠ bx := hx12.symm
        refine W.seq ?_
        refine W.meet (fun E s => ∃ m : Msg, (m.seq = seq1 ∧ m.body.length ≤ 60 ∧ (m.attr = [] ∨ m.attr = [97, 61, 49] ∨ m.attr = [98, 61, 50]) ∧ (0 ≤ m.prio ∧ m.prio ≤ 9) ∧ m.tries = 0 ∧ m.until_ = 0 ∧ m.dead = false ∧ m.why = []) ∧ s = s'.setBox b12 (msgC m) ∧ Has [(0, .slc 1 (aBytes c) t), (2, .int .i64 clock), (3, .int .i64 next), (8, .ptr b8 0), (9, .ptr bx 0), (10, .int .i64 seq1), (11, .int .i64 i), (12, .ptr b12 0)] E) ?_ ?_
        · refine W.seq ?_
          refine W.regionL (by decide +kernel) rfl ?_; apply r_op; exact rfl; exact rfl; apply a_move; (conv => (lhs; whnf)); apply r_op; exact rfl; exact rfl; apply a_move; (conv => (lhs; whnf)); apply r_op; exact rfl; exact rfl; apply g_binOp; exact a_add64 rfl rfl (by omega); apply r_op; exact rfl; exact rfl; apply g_indexAddr
          exact a_indexAddr rfl rfl (by decide) (by omega) (by exact get_bytes (by assumption)); apply r_op; exact rfl; exact rfl; apply g_load; exact a_load1 rfl rfl; apply r_op; exact rfl; exact rfl; apply g_binOp; exact a_binI rfl rfl rfl; (with_reducible refine runs_done ?_); refine W.cond rfl (fun hc => ?_) (fun hc => ?_); refine W.regionL (by decide +kernel) rfl ?_; apply r_op; exact rfl
          exact rfl; apply a_move; (conv => (lhs; whnf)); apply r_op; exact rfl; exact rfl; apply a_move; (conv => (lhs; whnf)); apply r_op; exact rfl; exact rfl; apply g_binOp; exact a_add64 rfl rfl (by omega); apply r_op; exact rfl; exact rfl; apply g_indexAddr; exact a_indexAddr rfl rfl (by decide) (by omega) (by exact get_bytes (by assumption)); apply r_op; exact rfl; exact rfl; apply g_load
          exact a_load1 rfl rfl; apply r_op; exact rfl; exact rfl; apply g_convert; exact a_convI rfl; apply r_op; exact rfl; exact rfl; apply g_binOp; exact a_rem rfl rfl (by omega); apply r_op; exact rfl; exact rfl; apply g_fieldAddr; exact a_fieldAddrP rfl (by decide); apply r_store; exact rfl; exact rfl; exact rfl; decide; infer_instance; exact rfl; exact setBox_same; (conv => (lhs; whnf))
          exact rfl; (conv => (lhs; whnf)); exact rfl; exact of_decide_eq_true rfl; exact rfl; (with_reducible refine runs_done ?_); rotate_left; refine W.skip ?_; rotate_left
          · exact ⟨⟨seq1, textL q1.toNat 60, at_, 0, 0, false, [], IntKind.i64.wrap (q2.toNat : Int) % 10⟩, ⟨rfl, hl60, hatl, by constructor <;> (show _ ≤ _; dsimp only; omega), rfl, rfl, rfl, rfl⟩, by simp only [setBox_setBox]; rfl, by exact Has.by (by repeat (first | exact trivial | refine ⟨by first | trivial | exact Weak.refl _ | exact Weak.tok _ _ _ | exact Weak.of_eq (congrArg (AV.int _) (by omega)) | exact Weak.nils _ _ (.inr rfl), ?_⟩))⟩
          · exact ⟨⟨seq1, textL q1.toNat 60, at_, 0, 0, false, [], 0⟩, ⟨rfl, hl60, hatl, (show (0 : Int) ≤ 0 ∧ (0 : Int) ≤ 9 from ⟨by decide, by decide⟩), rfl, rfl, rfl, rfl⟩, by simp only [setBox_setBox]; rfl, by exact Has.by (by repeat (first | exact trivial | refine ⟨by first | trivial | exact Weak.refl _ | exact Weak.tok _ _ _ | exact Weak.of_eq (congrArg (AV.int _) (by omega)) | exact Weak.nils _ _ (.inr rfl), ?_⟩))⟩
        · rintro E s2 ⟨m, ⟨ms, mb, ma, mp, mt, mu, md, mw⟩, rfl, hE⟩
          refine W.has hE ?_; clear hE; refine W.seq ?_; refine W.meet (fun E s => ∃ m : Msg, (m.seq = seq1 ∧ MsgOk clock x.most x.lease m) ∧ s = s'.setBox b12 (msgC m) ∧ Has [(0, .slc 1 (aBytes c) t), (2, .int .i64 clock), (3, .int .i64 next), (8, .ptr b8 0), (9, .ptr bx 0), (10, .int .i64 seq1), (11, .int .i64 i), (12, .ptr b12 0)] E) ?_ ?_
          · refine W.seq ?_
            refine W.regionL (by decide +kernel) rfl ?_; apply r_op; exact rfl; exact rfl; apply a_move; (conv => (lhs; whnf)); apply r_op; exact rfl; exact rfl; apply a_move; (conv => (lhs; whnf)); apply r_op; exact rfl; exact rfl; apply g_binOp; exact a_add64 rfl rfl (by omega); apply r_op; exact rfl; exact rfl; apply g_indexAddr
            exact a_indexAddr rfl rfl (by decide) (by omega) (by exact get_bytes (by assumption)); apply r_op; exact rfl; exact rfl; apply g_load; exact a_load1 rfl rfl; apply r_op; exact rfl; exact rfl; apply g_binOp; exact a_rem rfl rfl (by omega); (with_reducible refine runs_done ?_); refine W.block ?_; refine W.seq ?_; refine W.regionL (by decide +kernel) rfl ?_; apply r_op; exact rfl; exact rfl
            apply g_binOp; exact a_binI rfl rfl rfl; apply r_op; exact rfl; exact rfl; apply a_assign; (conv => (lhs; whnf)); (with_reducible refine runs_done ?_); refine W.cond rfl (fun hc => ?_) (fun hc => ?_); refine W.regionDK 1 [] Ty.mixed (by decide +kernel) (by decide +kernel) rfl ?_; apply r_op; exact rfl; exact rfl; apply a_move; (conv => (lhs; whnf)); apply r_op; exact rfl; exact rfl
            apply a_move; (conv => (lhs; whnf)); apply r_op; exact rfl; exact rfl; apply g_binOp; exact a_add64 rfl rfl (by omega); apply r_op; exact rfl; exact rfl; apply g_indexAddr; exact a_indexAddr rfl rfl (by decide) (by omega) (by exact get_bytes (by assumption)); apply r_op; exact rfl; exact rfl; apply g_load; exact a_load1 rfl rfl; apply r_op; exact rfl; exact rfl; apply g_convert
            exact a_convI rfl; apply r_op; exact rfl; exact rfl; apply g_fieldAddr; exact a_fieldAddrP rfl (by decide); apply r_load; exact rfl; exact rfl; exact rfl; decide; exact rfl; apply hb_ne (by assumption); assumption; exact aLoad1 rfl; apply r_op; exact rfl; exact rfl; apply g_binOp; exact a_rem rfl rfl (by omega); apply r_op; exact rfl; exact rfl; apply g_fieldAddr
            exact a_fieldAddrP rfl (by decide); apply r_store; exact rfl; exact rfl; exact rfl; decide; infer_instance; exact rfl; exact setBox_same; (conv => (lhs; whnf)); exact rfl; (conv => (lhs; whnf)); exact rfl; exact of_decide_eq_true rfl; exact rfl; (with_reducible refine runs_done ?_); rotate_left; refine W.seq ?_; refine W.regionL (by decide +kernel) rfl ?_; apply r_op; exact rfl; exact rfl
            apply g_binOp; exact a_binI rfl rfl rfl; apply r_op; exact rfl; exact rfl; apply a_assign; (conv => (lhs; whnf)); (with_reducible refine runs_done ?_); refine W.cond rfl (fun hc => ?_) (fun hc => ?_); refine W.seq ?_; refine W.regionDK 1 [] Ty.mixed (by decide +kernel) (by decide +kernel) rfl ?_; apply r_op; exact rfl; exact rfl; apply a_move; (conv => (lhs; whnf)); apply r_op; exact rfl
            exact rfl; apply a_move; (conv => (lhs; whnf)); apply r_op; exact rfl; exact rfl; apply g_binOp; exact a_add64 rfl rfl (by omega); apply r_op; exact rfl; exact rfl; apply g_indexAddr; exact a_indexAddr rfl rfl (by decide) (by omega) (by exact get_bytes (by assumption)); apply r_op; exact rfl; exact rfl; apply g_load; exact a_load1 rfl rfl; apply r_op; exact rfl; exact rfl
            apply g_convert; exact a_convI rfl; apply r_op; exact rfl; exact rfl; apply g_fieldAddr; exact a_fieldAddrP rfl (by decide); apply r_load; exact rfl; exact rfl; exact rfl; decide; exact rfl; apply hb_ne (by assumption); assumption; exact aLoad1 rfl; apply r_op; exact rfl; exact rfl; apply g_binOp; exact a_rem rfl rfl (by omega); apply r_op; exact rfl; exact rfl; apply g_binOp
            exact a_add64 rfl rfl (by omega); apply r_op; exact rfl; exact rfl; apply g_fieldAddr; exact a_fieldAddrP rfl (by decide); apply r_store; exact rfl; exact rfl; exact rfl; decide; infer_instance; exact rfl; exact setBox_same; (conv => (lhs; whnf)); exact rfl; (conv => (lhs; whnf)); exact rfl; exact of_decide_eq_true rfl; exact rfl; (with_reducible refine runs_done ?_)
            refine W.regionDK 1 [] Ty.mixed (by decide +kernel) (by decide +kernel) rfl ?_; apply r_op; exact rfl; exact rfl; apply a_move; (conv => (lhs; whnf)); apply r_op; exact rfl; exact rfl; apply g_binOp; exact a_add64 rfl rfl (by omega); apply r_op; exact rfl; exact rfl; apply a_move; (conv => (lhs; whnf)); apply r_op; exact rfl; exact rfl; apply a_move; (conv => (lhs; whnf)); apply r_op
            exact rfl; exact rfl; apply g_binOp; exact a_add64 rfl rfl (by omega); apply r_op; exact rfl; exact rfl; apply g_indexAddr; exact a_indexAddr rfl rfl (by decide) (by omega) (by exact get_bytes (by assumption)); apply r_op; exact rfl; exact rfl; apply g_load; exact a_load1 rfl rfl; apply r_op; exact rfl; exact rfl; apply g_convert; exact a_convI rfl; apply r_op; exact rfl; exact rfl
            apply g_fieldAddr; exact a_fieldAddrP rfl (by decide); apply r_load; exact rfl; exact rfl; exact rfl; decide; exact rfl; apply hb_ne (by assumption); apply hb_ne (by assumption); assumption; exact aLoad1 rfl; apply r_op; exact rfl; exact rfl; apply g_binOp; exact a_rem rfl rfl (by omega); apply r_op; exact rfl; exact rfl; apply g_binOp; exact a_add64 rfl rfl (by omega); apply r_op
            exact rfl; exact rfl; apply g_fieldAddr; exact a_fieldAddrP rfl (by decide); apply r_store; exact rfl; exact rfl; exact rfl; decide; infer_instance; exact rfl; exact setBox_same; (conv => (lhs; whnf)); exact rfl; (conv => (lhs; whnf)); exact rfl; exact of_decide_eq_true rfl; exact rfl; (with_reducible refine runs_done ?_); rotate_left; refine W.seq ?_
            refine W.regionL (by decide +kernel) rfl ?_; apply r_op; exact rfl; exact rfl; apply g_binOp; exact a_binI rfl rfl rfl; apply r_op; exact rfl; exact rfl; apply a_assign; (conv => (lhs; whnf)); (with_reducible refine runs_done ?_); refine W.cond rfl (fun hc => ?_) (fun hc => ?_); refine W.seq ?_; refine W.regionL (by decide +kernel) rfl ?_; apply r_op; exact rfl; exact rfl
            apply g_fieldAddr; exact a_fieldAddrP rfl (by decide); apply r_store; exact rfl; exact rfl; exact rfl; decide; infer_instance; exact rfl; exact setBox_same; (conv => (lhs; whnf)); exact rfl; (conv => (lhs; whnf)); exact rfl; exact of_decide_eq_true rfl; exact rfl; (with_reducible refine runs_done ?_); refine W.seq ?_; refine W.regionL (by decide +kernel) rfl ?_; apply r_op; exact rfl
            exact rfl; apply g_fieldAddr; exact a_fieldAddrP rfl (by decide); apply r_load; exact rfl; exact rfl; exact rfl; decide; exact rfl; apply hb_ne (by assumption); apply hb_ne (by assumption); assumption; exact aLoad1 rfl; apply r_op; exact rfl; exact rfl; apply g_fieldAddr; exact a_fieldAddrP rfl (by decide); apply r_store; exact rfl; exact rfl; exact rfl; decide; infer_instance
            exact rfl; exact setBox_same; (conv => (lhs; whnf)); exact rfl; (conv => (lhs; whnf)); exact rfl; exact of_decide_eq_true rfl; exact rfl; (with_reducible refine runs_done ?_); refine W.regionL (by decide +kernel) rfl ?_; apply r_op; exact rfl; exact rfl; apply g_buildSlice; apply a_buildN; apply EvP.cons (by (conv => (lhs; whnf))); apply EvP.cons (by (conv => (lhs; whnf))); exact EvP.nil
            (conv => (lhs; whnf)); exact rfl; exact rfl; decide; apply r_op; exact rfl; exact rfl; apply a_move; (conv => (lhs; whnf)); apply r_op; exact rfl; exact rfl; apply a_move; (conv => (lhs; whnf)); apply r_op; exact rfl; exact rfl; apply g_binOp; exact a_add64 rfl rfl (by omega); apply r_op; exact rfl; exact rfl; apply g_indexAddr
            exact a_indexAddr rfl rfl (by decide) (by omega) (by exact get_bytes (by assumption)); apply r_op; exact rfl; exact rfl; apply g_load; exact a_load1 rfl rfl; apply r_op; exact rfl; exact rfl; apply g_binOp; exact a_rem rfl rfl (by omega); apply r_op; exact rfl; exact rfl; apply g_indexAddr; exact a_indexAddr rfl rfl (by decide) (by omega) (by assumption); apply r_op; exact rfl
            exact rfl; apply g_load; exact a_load1 rfl rfl; apply r_op; exact rfl; exact rfl; apply g_fieldAddr; exact a_fieldAddrP rfl (by decide); apply r_store; exact rfl; exact rfl; exact rfl; decide; infer_instance; exact rfl; exact setBox_same; (conv => (lhs; whnf)); exact rfl; (conv => (lhs; whnf)); exact rfl; exact of_decide_eq_true rfl; exact rfl; (with_reducible refine runs_done ?_)
            rotate_left; refine W.skip ?_; rotate_left
            · exact ⟨{ m with tries := IntKind.i64.wrap (q3.toNat : Int) % x.most }, ⟨ms, mb, ma, mp, .inl ⟨md, mw, mu, hmm, hmm2⟩⟩, by simp only [setBox_setBox]; rfl, by exact Has.by (by repeat (first | exact trivial | refine ⟨by first | trivial | exact Weak.refl _ | exact Weak.tok _ _ _ | exact Weak.of_eq (congrArg (AV.int _) (by omega)) | exact Weak.nils _ _ (.inr rfl), ?_⟩))⟩
            · exact ⟨{ m with tries := 1 + IntKind.i64.wrap (q3.toNat : Int) % x.most, until_ := (clock : Int) + 1 + IntKind.i64.wrap (q1.toNat : Int) % x.lease }, ⟨ms, mb, ma, mp, .inr (.inl ⟨md, mw, by constructor <;> (dsimp only; omega), by constructor <;> (dsimp only; omega)⟩)⟩, by simp only [setBox_setBox]; rfl, by exact Has.by (by repeat (first | exact trivial | refine ⟨by first | trivial | exact Weak.refl _ | exact Weak.tok _ _ _ | exact Weak.of_eq (congrArg (AV.int _) (by omega)) | exact Weak.nils _ _ (.inr rfl), ?_⟩))⟩
            · exact ⟨{ m with dead := true, tries := x.most, why := wy }, ⟨ms, mb, ma, mp, .inr (.inr ⟨rfl, mu, rfl, hwyl⟩)⟩, by simp only [setBox_setBox]; rfl, by exact Has.by (by repeat (first | exact trivial | refine ⟨by first | trivial | exact Weak.refl _ | exact Weak.tok _ _ _ | exact Weak.of_eq (congrArg (AV.int _) (by omega)) | exact Weak.nils _ _ (.inr rfl), ?_⟩))⟩
            · exact ⟨m, ⟨ms, mb, ma, mp, .inl ⟨md, mw, mu, by omega, by omega⟩⟩, rfl, by exact Has.by (by repeat (first | exact trivial | refine ⟨by first | trivial | exact Weak.refl _ | exact Weak.tok _ _ _ | exact Weak.of_eq (congrArg (AV.int _) (by omega)) | exact Weak.nils _ _ (.inr rfl), ?_⟩))⟩
          · rintro E s3 ⟨m, ⟨ms, hma⟩, rfl, hE⟩
            refine W.has hE ?_; clear hE
            have hs3 := hs.other (cs := msgC m) h812 hx12 hσ12
            have hb3 := hs3.b
            have hm0 := Moves.refl hs3.mq.room
            refine W.regionL (by decide +kernel) rfl ?_; apply r_op; exact rfl; exact rfl; apply g_fieldAddr; exact a_fieldAddrP rfl (by decide); apply r_load; exact rfl; exact rfl; exact rfl; decide; exact rfl; assumption; exact aLoad1 rfl; apply r_load; exact rfl; exact rfl; exact rfl; decide; exact rfl; exact setBox_same; exact aLoadA rfl (by rfl) rfl; apply r_op; exact rfl; exact rfl
            apply g_buildSlice; apply a_build1; (conv => (lhs; whnf)); exact rfl; exact rfl; decide; apply r_append'; exact rfl; exact rfl; decide; infer_instance; exact rfl; exact rfl; exact rfl; exact rfl; exact rfl; assumption
            simp only [length_aBytes, List.length_append, List.length_cons, List.length_nil, List.length_map, List.length_range]
            omega; intro tk1 σ1 hm; apply r_op; exact rfl; exact rfl; apply g_fieldAddr; exact a_fieldAddrP rfl (by decide); apply r_store; exact rfl; exact rfl; exact rfl; decide; infer_instance; exact rfl; apply hb_moves (by assumption); assumption; (conv => (lhs; whnf)); exact rfl; (conv => (lhs; whnf)); exact rfl; exact of_decide_eq_true rfl; exact rfl; (with_reducible refine runs_done ?_)
            refine W.regionL (by decide +kernel) rfl ?_; apply r_op; exact rfl; exact rfl; apply a_move; (conv => (lhs; whnf)); apply r_op; exact rfl; exact rfl; apply g_binOp; exact a_add64 rfl rfl (by omega); apply r_op; exact rfl; exact rfl; apply a_assign; (conv => (lhs; whnf)); (with_reducible refine runs_done ?_)
            have h9 := hs3.queue (x' := { x with queue := x.queue ++ [m] }) hne hbx hm
            simp only [subC, List.map_append, List.map_cons, List.map_nil] at h9
            obtain ⟨k1, k2⟩ := hgr.msg hup (by rw [ms]; exact hsq1) (by rw [ms]; exact hsq) hq30 hma
            rw [ms] at k2
            exact ⟨100 - (i + 4), by omega, i + 4, seq1, { x with queue := x.queue ++ [m] }, ta, tk1, rfl, by omega, by omega, hsq0, hsq, k1, k2, h9, by exact Has.by (by repeat (first | exact trivial | refine ⟨by first | trivial | exact Weak.refl _ | exact Weak.tok _ _ _ | exact Weak.of_eq (congrArg (AV.int _) (by omega)) | exact Weak.nils _ _ (.inr rfl), ?_⟩))⟩
    · rintro E s ⟨x, ta, tq, hgr, hs, hE⟩
      refine W.has hE ?_; clear hE
      have hb := hs.b
      have hr := hs.r
      refine W.seq ?_; refine W.regionL (by decide +kernel) rfl ?_; apply r_load; exact rfl; exact rfl; exact rfl; decide; exact rfl; assumption; exact aLoadA rfl (by rfl) rfl; apply r_store; exact rfl; exact rfl; exact rfl; decide; infer_instance; exact rfl; assumption; (conv => (lhs; whnf)); exact rfl; (conv => (lhs; whnf)); exact rfl; exact of_decide_eq_true rfl; exact setL_whole rfl
      (with_reducible refine runs_done ?_); refine W.ret ?_; show Q Exit.ret _ _; refine post_le (σ' := σ) hQ (by apply res_cell; exact rfl; exact setBox_same; exact aLoadA rfl (by rfl) rfl; exact res_nil) rfl (weak_sub x ta tq) (le_setBox hs.ma.le hb8) ?_ (.inl rfl)
      exact ⟨x, rfl, hgr, rfl⟩
end Go.Proofs.YtkbmkhhcppfcnaaDoor
end
section
set_option linter.unusedVariables false
set_option linter.unusedSimpArgs false
set_option maxRecDepth 100000
set_option maxHeartbeats 1000000
namespace Go.Proofs.YtkbmkhhcppfcnaaDoor
open Go.Al Go.RowKit
theorem good_x0 : Good2 x0 := ⟨by decide, by decide, by decide, by decide, by decide, ⟨by decide, by decide⟩, ⟨by decide, by decide⟩, ⟨by decide, by decide⟩, by decide, trivial, by simp [x0], trivial, by simp [x0], by simp [x0]⟩
theorem enc2_x0 : enc2 x0 = [s2 x0] := by simp [enc2, ack2, note2, x0]
theorem dec2_nil : dec2 [] = (sub0, 11) := by
  have : enc2 (fin2 []) ≠ [] := by simp [enc2]
  rw [dec2, if_neg fun h => this h.2]
theorem known2_any (w0 : World) (hL : Laid w0) : CallP Tryd.prog w0 32 [] (.bool true) := by
  have hen : CallP Tryd.prog w0 29 [xA] (.slc 2 [eRow (s2 x0)] .no) := fun σ => by
    have := enc2_p w0 hL x0 fits_x0 σ
    rw [enc2_x0] at this
    exact CallW.weak1 [] [] weak_x0 this
  have ht : tot [s2 x0] ≤ 100000 := by
    have h1 := txt_len x0.name
    have h2 := txt_len x0.topic
    have h3 := txt_len x0.want
    have h4 := num_len x0.lease
    have h5 := num_len x0.most
    have h6 := num_len x0.floor
    have h7 : x0.name.length + x0.topic.length + x0.want.length ≤ 10 := by decide
    simp [tot, s2, sB2]; omega
  have hdec : CallP Tryd.prog w0 30 [.slc 2 [eRow (s2 x0)] .no] (.tup [eSub x0, .int .u16 0]) := by
    have := dec2_p w0 hL [s2 x0] .no ht (by simp [s2, rkey_length])
    rw [← enc2_x0, dec2_back good_x0, enc2_x0] at this
    exact this
  have hdn : CallP Tryd.prog w0 30 [.nils] (.tup [eSub sub0, .int .u16 11]) := fun σ => by
    have := dec2_p w0 hL [] .no (by simp [tot]) (by simp)
    rw [dec2_nil] at this
    exact CallW.weak1 [] [] (.nils 2 .no (.inl rfl)) (this σ)
  clear ht
  generalize s2 x0 = r at hen hdec
  refine CallP.x Ty.tok Ty.mixed Tryd.func32 rfl Tryd.ntmps32 rfl (by simp) (by decide +kernel) fun σ => ?_
  (conv => whnf); refine SCall.p (by exact hen) ?_; (conv => whnf); refine SCall.p (by exact hdec) ?_; (conv => whnf); intro b1 hb1; (conv => whnf); refine SStore.on 0 rfl ?_; (conv => whnf); refine SCall.p (by exact hdn) ?_; (conv => whnf); intro b1 hb1; (conv => whnf); refine SStore.on 0 rfl ?_; (conv => whnf); refine SCond.y (by exact rfl) ?_; (conv => whnf); refine SCond.y (by exact rfl) ?_
  (conv => whnf); refine SPick.y (by exact rfl) ?_; (conv => whnf); refine SCond.y (by exact rfl) ?_; (conv => whnf); refine SCond.y (by exact rfl) ?_; (conv => whnf); refine SLoad.on 1 rfl ?_; (conv => whnf); refine SCond.y (by exact rfl) ?_; (conv => whnf); refine SPick.y (by exact rfl) ?_; (conv => whnf); refine SCond.y (by exact rfl) ?_; (conv => whnf); refine SCond.y (by exact rfl) ?_
  (conv => whnf); refine SLoad.on 1 rfl ?_; (conv => whnf); refine SCond.y (by exact rfl) ?_; (conv => whnf); refine SPick.y (by exact rfl) ?_; (conv => whnf); refine SCond.y (by exact rfl) ?_; (conv => whnf); refine SCond.y (by exact rfl) ?_; (conv => whnf); refine SPick.y (by exact rfl) ?_; (conv => whnf)
  exact .p (by repeat (first | assumption | exact .refl _ | refine le_new2 ?_ (by assumption) | refine le_new ?_ (by assumption) | refine le_setBox ?_ (by first | assumption | exact none_in (by assumption) | exact none_in (none_in (by assumption)) | exact none_in (none_in (none_in (by assumption))) | fail) | exact Moves.le (by assumption) | refine .trans ?_ (Moves.le (by assumption)))) rfl
theorem lawsub2_any (w0 : World) (c : List UInt8) (t : Tok) (k : UInt8) (hc : c.length ≤ 9223372036854775807) (σ : St) : CallW Tryd.prog w0 28 [.slc 1 (aBytes c) t, .int .u8 k.toNat] σ (fun r s => ∃ x, r = eSub x ∧ Grown (1 + k.toNat) 9 (2 + k.toNat) x ∧ s = σ) := by
  have hk := k.toNat_lt
  have hs : ∀ σ, CallW Tryd.prog w0 33 [.slc 1 (aBytes c) t, .int .i64 (1 + (k.toNat : Int)), .int .i64 9, .int .i64 (2 + (k.toNat : Int))] σ (fun r s => ∃ x, r = eSub x ∧ Grown (1 + k.toNat) 9 (2 + k.toNat) x ∧ s = σ) := fun σ =>
    sub_any w0 c t (1 + k.toNat) 9 (2 + k.toNat) hc (by omega) (by omega) ⟨by omega, by omega⟩ σ
  refine CallW.x Ty.tok Ty.mixed Tryd.func28 rfl Tryd.ntmps28 rfl (by simp) (by decide +kernel) (.nil σ) ?_; (conv => whnf); intro b1 hb1; (conv => whnf); refine ⟨_, IntWalk.i64_in _ (by omega), ?_⟩; (conv => whnf); refine ⟨_, IntWalk.i64_in _ (by omega), ?_⟩; (conv => whnf); refine ⟨_, IntWalk.i64_in _ (by omega), ?_⟩; (conv => whnf)
  refine ⟨_, IntWalk.i64_in _ (by omega), ?_⟩; (conv => whnf); refine SCall.w (by exact hs _) rfl ?_; rintro r s ⟨x1, rfl, hx1, hs1⟩ hB
  replace hs1 := hs1.symm
  subst hs1
  refine ⟨_, hB, ?_⟩; clear hB; (conv => whnf); refine SStore.on 0 rfl ?_; (conv => whnf); refine SLoad.on 0 rfl ?_; (conv => whnf)
  exact ⟨fun _ => ⟨_, σ, .refl _, by repeat (first | assumption | exact .refl _ | refine le_new2 ?_ (by assumption) | refine le_new ?_ (by assumption) | refine le_setBox ?_ (by first | assumption | exact none_in (by assumption) | exact none_in (none_in (by assumption)) | exact none_in (none_in (none_in (by assumption))) | fail) | exact Moves.le (by assumption) | refine .trans ?_ (Moves.le (by assumption))), x1, rfl, hx1, rfl⟩⟩
end Go.Proofs.YtkbmkhhcppfcnaaDoor
end
section
set_option linter.unusedVariables false
set_option linter.unusedSimpArgs false
set_option maxRecDepth 100000
set_option maxHeartbeats 4000000
namespace Go.Proofs.YtkbmkhhcppfcnaaDoor
open Go.Al Go.RowKit
instance : FlatEq Tryd.prog 46 := ⟨⟨_, Tryd.underlying46⟩, by kernel_rfl, by kernel_rfl⟩
theorem flat_msg (m : Msg) {fs : List Field} (h : Tryd.prog.underlying 46 = some (.struct fs.toArray)) : flatFrom Tryd.prog 0 fs (eMsg m).cells = true := by
  rw [Tryd.underlying46] at h
  simp only [Option.some.injEq, TypeDesc.struct.injEq] at h
  have h := congrArg Array.toList h
  simp only [List.toList_toArray] at h
  subst h
  simp [flatFrom, eMsg, AV.cells, cellD, Tryd.underlying3, Tryd.underlying9, Tryd.underlying4]
theorem eq_msg (m n : Msg) : eqCells (eMsg m).cells (eMsg n).cells = some (decide (m = n)) := by
  simp only [eMsg, AV.cells, eqCells, eqCell, if_true]
  obtain ⟨a1, a2, a3, a4, a5, a6, a7, a8⟩ := m
  obtain ⟨b1, b2, b3, b4, b5, b6, b7, b8⟩ := n
  congr 1
  rw [Bool.eq_iff_iff]
  simp only [Bool.and_eq_true, beq_iff_eq, decide_eq_true_eq, Msg.mk.injEq, Bool.and_true, and_true]
theorem sameMsgs_any (w0 : World) (a b : List Msg) (ta tb : Tok) (ha : a.length ≤ 1000000000) : CallP Tryd.prog w0 50 [.slc 8 (a.map eMsg) ta, .slc 8 (b.map eMsg) tb] (.bool (decide (a = b))) := by
  refine CallP.start Tryd.func50 rfl Tryd.ntmps50 (by simp) fun σ Q hQ => ?_
  refine W.seq ?_; refine W.regionL (by decide +kernel) rfl ?_; apply r_op; exact rfl; exact rfl; apply a_assign; (conv => (lhs; whnf)); (with_reducible refine runs_done ?_); refine W.seq ?_; refine W.seq ?_; refine W.regionL (by decide +kernel) rfl ?_; apply r_op; exact rfl; exact rfl; apply a_move; (conv => (lhs; whnf)); apply r_op; exact rfl; exact rfl; apply g_call; exact a_len_slc rfl
  apply r_op; exact rfl; exact rfl; apply a_move; (conv => (lhs; whnf)); apply r_op; exact rfl; exact rfl; apply g_call; exact a_len_slc rfl; apply r_op; exact rfl; exact rfl; apply g_binOp; exact a_binI rfl rfl rfl; (with_reducible refine runs_done ?_); refine W.cond rfl (fun hc => ?_) (fun hc => ?_); refine W.seq ?_; refine W.regionL (by decide +kernel) rfl ?_; apply r_op; exact rfl; exact rfl
  apply a_assign; (conv => (lhs; whnf)); (with_reducible refine runs_done ?_); refine W.ret ?_; show Q Exit.ret _ _; refine post_q hQ (by apply res_tmp; exact rfl; exact res_nil) (.inl rfl) (by exact .refl _) ?_; (conv => (lhs; whnf)); rotate_left; refine W.skip ?_; show W _ _ _ _ _ _ _; refine W.seq ?_; refine W.seq ?_; refine W.regionL (by decide +kernel) rfl ?_; apply r_op; exact rfl; exact rfl
  apply a_assign; (conv => (lhs; whnf)); (with_reducible refine runs_done ?_); refine W.block ?_; rotate_left
  · have : ¬ a = b := by rintro rfl; simp at hc
    simp [this]
  · have hlen : a.length = b.length := by simp at hc; omega
    clear hc
    refine W.loop (fun k E s => ∃ i : Nat, i ≤ a.length ∧ k = a.length - i ∧ s = σ ∧ a.take i = b.take i ∧ Has [(0, .slc 8 (a.map eMsg) .no), (1, .slc 8 (b.map eMsg) .no), (5, .int .i64 i)] E) a.length ⟨0, Nat.zero_le _, rfl, rfl, by simp, by exact Has.by (by repeat (first | exact trivial | refine ⟨by first | trivial | exact Weak.refl _ | exact Weak.tok _ _ _ | exact Weak.of_eq (congrArg (AV.int _) (by omega)) | exact Weak.of_eq (congrArg AV.bool (by fail)) | exact Weak.nils _ _ (.inr rfl), ?_⟩))⟩ ?_
    rintro k E s ⟨i, hi, rfl, rfl, htk, hE⟩; refine W.has hE ?_; clear hE; refine W.seq ?_; refine W.seq ?_; refine W.regionL (by decide +kernel) rfl ?_; apply r_op; exact rfl; exact rfl; apply a_move; (conv => (lhs; whnf)); apply r_op; exact rfl; exact rfl; apply a_move; (conv => (lhs; whnf)); apply r_op; exact rfl; exact rfl; apply g_call; exact a_len_slc rfl; apply r_op; exact rfl; exact rfl
    apply g_binOp; exact a_binI rfl rfl rfl; (with_reducible refine runs_done ?_); refine W.cond rfl (fun hc => ?_) (fun hc => ?_)
    · have hlt : i < a.length := by simp at hc; omega
      have ga : a[i]? = some a[i] := by simp [hlt]
      have gb : b[i]? = some (b[i]'(by omega)) := List.getElem?_eq_getElem (by omega)
      have ht := take_succ_iff hlt (show i < b.length by omega) htk
      generalize a[i] = x at ga ht
      generalize b[i]'(by omega) = y at gb ht
      refine W.skip ?_; show W _ _ _ _ _ _ _; refine W.seq ?_; refine W.block ?_; refine W.seq ?_; refine W.regionDK 1 [] Ty.mixed (by decide +kernel) (by decide +kernel) rfl ?_; apply r_op; exact rfl; exact rfl; apply a_move; (conv => (lhs; whnf)); apply r_op; exact rfl; exact rfl; apply a_move; (conv => (lhs; whnf)); apply r_op; exact rfl; exact rfl; apply g_indexAddr
      exact a_indexAddr rfl rfl (by decide) (by omega) (by exact get_map ga); apply r_op; exact rfl; exact rfl; apply g_load; exact a_loadA rfl (by rfl) rfl; apply r_op; exact rfl; exact rfl; apply a_move; (conv => (lhs; whnf)); apply r_op; exact rfl; exact rfl; apply a_move; (conv => (lhs; whnf)); apply r_op; exact rfl; exact rfl; apply g_indexAddr
      exact a_indexAddr rfl rfl (by decide) (by omega) (by exact get_map gb); apply r_op; exact rfl; exact rfl; apply g_load; exact a_loadA rfl (by rfl) rfl; apply r_eqAgg; exact rfl; exact rfl; exact rfl; exact rfl; infer_instance; exact rfl; intro fs hfs; exact flat_msg _ hfs; exact eq_msg _ _; exact rfl; (with_reducible refine runs_done ?_); refine W.cond rfl (fun hc => ?_) (fun hc => ?_)
      refine W.seq ?_; refine W.regionL (by decide +kernel) rfl ?_; apply r_op; exact rfl; exact rfl; apply a_assign; (conv => (lhs; whnf)); (with_reducible refine runs_done ?_); refine W.ret ?_; show Q Exit.ret _ _; refine post_q hQ (by apply res_tmp; exact rfl; exact res_nil) (.inl rfl) (by exact .refl _) ?_; (conv => (lhs; whnf)); rotate_left; refine W.skip ?_; show W _ _ _ _ _ _ _
      refine W.regionL (by decide +kernel) rfl ?_; apply r_op; exact rfl; exact rfl; apply a_move; (conv => (lhs; whnf)); apply r_op; exact rfl; exact rfl; apply g_binOp; exact a_add64 rfl rfl (by omega); apply r_op; exact rfl; exact rfl; apply a_assign; (conv => (lhs; whnf)); (with_reducible refine runs_done ?_); rotate_left
      · have : ¬ a = b := fun e => by subst e; rw [ga] at gb; cases gb; simp at hc
        simp [this]
      · have hxy : x = y := by simpa using hc
        exact ⟨a.length - (i + 1), by omega, i + 1, by omega, rfl, rfl, ht.2 hxy, by exact Has.by (by repeat (first | exact trivial | refine ⟨by first | trivial | exact Weak.refl _ | exact Weak.tok _ _ _ | exact Weak.of_eq (congrArg (AV.int _) (by omega)) | exact Weak.of_eq (congrArg AV.bool (by fail)) | exact Weak.nils _ _ (.inr rfl), ?_⟩))⟩
    · have hge : i = a.length := by simp at hc; omega
      refine W.exit ?_; show W _ _ _ _ _ _ _; refine W.seq ?_; refine W.regionL (by decide +kernel) rfl ?_; apply r_op; exact rfl; exact rfl; apply a_assign; (conv => (lhs; whnf)); (with_reducible refine runs_done ?_); refine W.ret ?_; show Q Exit.ret _ _; refine post_q hQ (by apply res_tmp; exact rfl; exact res_nil) (.inl rfl) (by exact .refl _) ?_; (conv => (lhs; whnf))
      have : a = b := by rw [hge, List.take_length, hlen, List.take_length] at htk; exact htk
      simp [this]
theorem sub_ext {x y : Sub} (h1 : x.id = y.id) (h2 : x.name = y.name) (h3 : x.topic = y.topic) (h4 : x.want = y.want) (h5 : x.lease = y.lease) (h6 : x.most = y.most) (h7 : x.floor = y.floor) (h8 : x.acks = y.acks) (h9 : x.queue = y.queue) (h10 : x.note = y.note) : x = y := by
  cases x; cases y; simp_all
theorem sameSub_any (w0 : World) (x y : Sub) (hq : x.queue.length ≤ 1000000000) (ha : x.acks.length ≤ 1000000000) : CallP Tryd.prog w0 19 [eSub x, eSub y] (.bool (decide (x = y))) := by
  refine CallP.start Tryd.func19 rfl Tryd.ntmps19 (by simp) fun σ Q hQ => ?_
  refine W.seq ?_; refine W.regionL (by decide +kernel) rfl ?_; apply r_boxF; exact rfl; exact rfl; exact rfl; (conv => (lhs; whnf)); exact rfl; apply r_boxF; exact rfl; exact rfl; exact rfl; (conv => (lhs; whnf)); exact rfl; apply r_op; exact rfl; exact rfl; apply a_assign; (conv => (lhs; whnf)); (with_reducible refine runs_done ?_); refine W.seq ?_; refine W.seq ?_
  refine W.regionL (by decide +kernel) rfl ?_; apply r_op; exact rfl; exact rfl; apply g_fieldAddr; exact a_fieldAddr1 rfl (by decide) rfl; apply r_op; exact rfl; exact rfl; apply g_load; exact a_load1 rfl rfl; apply r_op; exact rfl; exact rfl; apply g_fieldAddr; exact a_fieldAddr1 rfl (by decide) rfl; apply r_op; exact rfl; exact rfl; apply g_load; exact a_load1 rfl rfl; apply r_op; exact rfl
  exact rfl; apply g_binOp; exact a_binI rfl rfl rfl; apply r_op; exact rfl; exact rfl; apply a_move; (conv => (lhs; whnf)); refine q_split rfl rfl rfl (fun hg => ?_) (fun hg => ?_); apply q_skip; exact rfl; exact want_f rfl rfl rfl (by assumption); apply q_skip; exact rfl; exact want_f rfl rfl rfl (by assumption); apply q_skip; exact rfl; exact want_f rfl rfl rfl (by assumption); apply q_skip
  exact rfl; exact want_f rfl rfl rfl (by assumption); apply q_skip; exact rfl; exact want_f rfl rfl rfl (by assumption); apply r_op; exact rfl; exact rfl; apply g_pick; apply a_pickT rfl (by assumption); (conv => (lhs; whnf)); apply r_op; exact rfl; exact rfl; apply a_move; (conv => (lhs; whnf)); apply q_skip; exact rfl; exact want_f rfl rfl rfl (by exact rfl); apply q_skip; exact rfl
  exact want_f rfl rfl rfl (by exact rfl); apply q_skip; exact rfl; exact want_f rfl rfl rfl (by exact rfl); apply q_skip; exact rfl; exact want_f rfl rfl rfl (by exact rfl); apply q_skip; exact rfl; exact want_f rfl rfl rfl (by exact rfl); apply r_op; exact rfl; exact rfl; apply g_pick; apply a_pickT rfl (by exact rfl); (conv => (lhs; whnf)); apply r_op; exact rfl; exact rfl; apply a_move
  (conv => (lhs; whnf)); apply q_skip; exact rfl; exact want_f rfl rfl rfl (by exact rfl); apply q_skip; exact rfl; exact want_f rfl rfl rfl (by exact rfl); apply q_skip; exact rfl; exact want_f rfl rfl rfl (by exact rfl); apply q_skip; exact rfl; exact want_f rfl rfl rfl (by exact rfl); apply q_skip; exact rfl; exact want_f rfl rfl rfl (by exact rfl); apply r_op; exact rfl; exact rfl; apply g_pick
  apply a_pickT rfl (by exact rfl); (conv => (lhs; whnf)); apply r_op; exact rfl; exact rfl; apply a_move; (conv => (lhs; whnf)); apply q_skip; exact rfl; exact want_f rfl rfl rfl (by exact rfl); apply q_skip; exact rfl; exact want_f rfl rfl rfl (by exact rfl); apply q_skip; exact rfl; exact want_f rfl rfl rfl (by exact rfl); apply q_skip; exact rfl; exact want_f rfl rfl rfl (by exact rfl)
  apply q_skip; exact rfl; exact want_f rfl rfl rfl (by exact rfl); apply r_op; exact rfl; exact rfl; apply g_pick; apply a_pickT rfl (by exact rfl); (conv => (lhs; whnf)); apply r_op; exact rfl; exact rfl; apply a_move; (conv => (lhs; whnf)); apply q_skip; exact rfl; exact want_f rfl rfl rfl (by exact rfl); apply q_skip; exact rfl; exact want_f rfl rfl rfl (by exact rfl); apply q_skip; exact rfl
  exact want_f rfl rfl rfl (by exact rfl); apply q_skip; exact rfl; exact want_f rfl rfl rfl (by exact rfl); apply q_skip; exact rfl; exact want_f rfl rfl rfl (by exact rfl); apply r_op; exact rfl; exact rfl; apply g_pick; apply a_pickT rfl (by exact rfl); (conv => (lhs; whnf)); apply r_op; exact rfl; exact rfl; apply a_move; (conv => (lhs; whnf)); apply q_skip; exact rfl
  exact want_f rfl rfl rfl (by exact rfl); apply q_skip; exact rfl; exact want_f rfl rfl rfl (by exact rfl); apply q_skip; exact rfl; exact want_f rfl rfl rfl (by exact rfl); apply q_skip; exact rfl; exact want_f rfl rfl rfl (by exact rfl); apply q_skip; exact rfl; exact want_f rfl rfl rfl (by exact rfl); apply r_op; exact rfl; exact rfl; apply g_pick; apply a_pickT rfl (by exact rfl)
  (conv => (lhs; whnf)); apply r_op; exact rfl; exact rfl; apply a_move; (conv => (lhs; whnf)); apply q_skip; exact rfl; exact want_f rfl rfl rfl (by exact rfl); apply q_skip; exact rfl; exact want_f rfl rfl rfl (by exact rfl); apply q_skip; exact rfl; exact want_f rfl rfl rfl (by exact rfl); apply q_skip; exact rfl; exact want_f rfl rfl rfl (by exact rfl); apply q_skip; exact rfl
  exact want_f rfl rfl rfl (by exact rfl); apply r_op; exact rfl; exact rfl; apply g_pick; apply a_pickT rfl (by exact rfl); (conv => (lhs; whnf)); apply r_op; exact rfl; exact rfl; apply a_move; (conv => (lhs; whnf)); apply q_skip; exact rfl; exact want_f rfl rfl rfl (by exact rfl); apply q_skip; exact rfl; exact want_f rfl rfl rfl (by exact rfl); apply q_skip; exact rfl
  exact want_f rfl rfl rfl (by exact rfl); apply q_skip; exact rfl; exact want_f rfl rfl rfl (by exact rfl); apply q_skip; exact rfl; exact want_f rfl rfl rfl (by exact rfl); apply q_skip; exact rfl; exact want_f rfl rfl rfl (by exact rfl); apply q_skip; exact rfl; exact want_f rfl rfl rfl (by exact rfl); apply r_op; exact rfl; exact rfl; apply g_pick; apply a_pickT rfl (by exact rfl)
  (conv => (lhs; whnf)); (with_reducible refine runs_done ?_); refine W.condT rfl (by exact rfl) ?_; refine W.seq ?_; refine W.regionL (by decide +kernel) rfl ?_; apply r_op; exact rfl; exact rfl; apply a_assign; (conv => (lhs; whnf)); (with_reducible refine runs_done ?_); refine W.ret ?_; show Q Exit.ret _ _
  refine post_q hQ (by apply res_tmp; exact rfl; exact res_nil) (.inl rfl) (by exact .refl _) ?_; (conv => (lhs; whnf)); rotate_left; apply r_op; exact rfl; exact want_t rfl rfl rfl (by assumption); apply g_fieldAddr; exact a_fieldAddr1 rfl (by decide) rfl; apply r_op; exact rfl; exact want_t rfl rfl rfl (by assumption); apply g_load; exact a_load1 rfl rfl; apply r_op; exact rfl
  exact want_t rfl rfl rfl (by assumption); apply g_fieldAddr; exact a_fieldAddr1 rfl (by decide) rfl; apply r_op; exact rfl; exact want_t rfl rfl rfl (by assumption); apply g_load; exact a_load1 rfl rfl; apply r_op; exact rfl; exact want_t rfl rfl rfl (by assumption); apply g_binOp; exact a_binS rfl rfl rfl rfl; apply r_op; exact rfl; exact rfl; apply g_pick; apply a_pickF rfl (by assumption)
  (conv => (lhs; whnf)); apply r_op; exact rfl; exact rfl; apply a_move; (conv => (lhs; whnf)); refine q_split rfl rfl rfl (fun hg => ?_) (fun hg => ?_); apply q_skip; exact rfl; exact want_f rfl rfl rfl (by assumption); apply q_skip; exact rfl; exact want_f rfl rfl rfl (by assumption); apply q_skip; exact rfl; exact want_f rfl rfl rfl (by assumption); apply q_skip; exact rfl
  exact want_f rfl rfl rfl (by assumption); apply q_skip; exact rfl; exact want_f rfl rfl rfl (by assumption); apply r_op; exact rfl; exact rfl; apply g_pick; apply a_pickT rfl (by assumption); (conv => (lhs; whnf)); apply r_op; exact rfl; exact rfl; apply a_move; (conv => (lhs; whnf)); apply q_skip; exact rfl; exact want_f rfl rfl rfl (by exact rfl); apply q_skip; exact rfl
  exact want_f rfl rfl rfl (by exact rfl); apply q_skip; exact rfl; exact want_f rfl rfl rfl (by exact rfl); apply q_skip; exact rfl; exact want_f rfl rfl rfl (by exact rfl); apply q_skip; exact rfl; exact want_f rfl rfl rfl (by exact rfl); apply r_op; exact rfl; exact rfl; apply g_pick; apply a_pickT rfl (by exact rfl); (conv => (lhs; whnf)); apply r_op; exact rfl; exact rfl; apply a_move
  (conv => (lhs; whnf)); apply q_skip; exact rfl; exact want_f rfl rfl rfl (by exact rfl); apply q_skip; exact rfl; exact want_f rfl rfl rfl (by exact rfl); apply q_skip; exact rfl; exact want_f rfl rfl rfl (by exact rfl); apply q_skip; exact rfl; exact want_f rfl rfl rfl (by exact rfl); apply q_skip; exact rfl; exact want_f rfl rfl rfl (by exact rfl); apply r_op; exact rfl; exact rfl; apply g_pick
  apply a_pickT rfl (by exact rfl); (conv => (lhs; whnf)); apply r_op; exact rfl; exact rfl; apply a_move; (conv => (lhs; whnf)); apply q_skip; exact rfl; exact want_f rfl rfl rfl (by exact rfl); apply q_skip; exact rfl; exact want_f rfl rfl rfl (by exact rfl); apply q_skip; exact rfl; exact want_f rfl rfl rfl (by exact rfl); apply q_skip; exact rfl; exact want_f rfl rfl rfl (by exact rfl)
  apply q_skip; exact rfl; exact want_f rfl rfl rfl (by exact rfl); apply r_op; exact rfl; exact rfl; apply g_pick; apply a_pickT rfl (by exact rfl); (conv => (lhs; whnf)); apply r_op; exact rfl; exact rfl; apply a_move; (conv => (lhs; whnf)); apply q_skip; exact rfl; exact want_f rfl rfl rfl (by exact rfl); apply q_skip; exact rfl; exact want_f rfl rfl rfl (by exact rfl); apply q_skip; exact rfl
  exact want_f rfl rfl rfl (by exact rfl); apply q_skip; exact rfl; exact want_f rfl rfl rfl (by exact rfl); apply q_skip; exact rfl; exact want_f rfl rfl rfl (by exact rfl); apply r_op; exact rfl; exact rfl; apply g_pick; apply a_pickT rfl (by exact rfl); (conv => (lhs; whnf)); apply r_op; exact rfl; exact rfl; apply a_move; (conv => (lhs; whnf)); apply q_skip; exact rfl
  exact want_f rfl rfl rfl (by exact rfl); apply q_skip; exact rfl; exact want_f rfl rfl rfl (by exact rfl); apply q_skip; exact rfl; exact want_f rfl rfl rfl (by exact rfl); apply q_skip; exact rfl; exact want_f rfl rfl rfl (by exact rfl); apply q_skip; exact rfl; exact want_f rfl rfl rfl (by exact rfl); apply r_op; exact rfl; exact rfl; apply g_pick; apply a_pickT rfl (by exact rfl)
  (conv => (lhs; whnf)); apply r_op; exact rfl; exact rfl; apply a_move; (conv => (lhs; whnf)); apply q_skip; exact rfl; exact want_f rfl rfl rfl (by exact rfl); apply q_skip; exact rfl; exact want_f rfl rfl rfl (by exact rfl); apply q_skip; exact rfl; exact want_f rfl rfl rfl (by exact rfl); apply q_skip; exact rfl; exact want_f rfl rfl rfl (by exact rfl); apply q_skip; exact rfl
  exact want_f rfl rfl rfl (by exact rfl); apply q_skip; exact rfl; exact want_f rfl rfl rfl (by exact rfl); apply q_skip; exact rfl; exact want_f rfl rfl rfl (by exact rfl); apply r_op; exact rfl; exact rfl; apply g_pick; apply a_pickT rfl (by exact rfl); (conv => (lhs; whnf)); (with_reducible refine runs_done ?_); refine W.condT rfl (by exact rfl) ?_; refine W.seq ?_
  refine W.regionL (by decide +kernel) rfl ?_; apply r_op; exact rfl; exact rfl; apply a_assign; (conv => (lhs; whnf)); (with_reducible refine runs_done ?_); refine W.ret ?_; show Q Exit.ret _ _; refine post_q hQ (by apply res_tmp; exact rfl; exact res_nil) (.inl rfl) (by exact .refl _) ?_; (conv => (lhs; whnf)); rotate_left; apply r_op; exact rfl; exact want_t rfl rfl rfl (by assumption)
  apply g_fieldAddr; exact a_fieldAddr1 rfl (by decide) rfl; apply r_op; exact rfl; exact want_t rfl rfl rfl (by assumption); apply g_load; exact a_load1 rfl rfl; apply r_op; exact rfl; exact want_t rfl rfl rfl (by assumption); apply g_fieldAddr; exact a_fieldAddr1 rfl (by decide) rfl; apply r_op; exact rfl; exact want_t rfl rfl rfl (by assumption); apply g_load; exact a_load1 rfl rfl; apply r_op
  exact rfl; exact want_t rfl rfl rfl (by assumption); apply g_binOp; exact a_binS rfl rfl rfl rfl; apply r_op; exact rfl; exact rfl; apply g_pick; apply a_pickF rfl (by assumption); (conv => (lhs; whnf)); apply r_op; exact rfl; exact rfl; apply a_move; (conv => (lhs; whnf)); refine q_split rfl rfl rfl (fun hg => ?_) (fun hg => ?_); apply q_skip; exact rfl; exact want_f rfl rfl rfl (by assumption)
  apply q_skip; exact rfl; exact want_f rfl rfl rfl (by assumption); apply q_skip; exact rfl; exact want_f rfl rfl rfl (by assumption); apply q_skip; exact rfl; exact want_f rfl rfl rfl (by assumption); apply q_skip; exact rfl; exact want_f rfl rfl rfl (by assumption); apply r_op; exact rfl; exact rfl; apply g_pick; apply a_pickT rfl (by assumption); (conv => (lhs; whnf)); apply r_op; exact rfl
  exact rfl; apply a_move; (conv => (lhs; whnf)); apply q_skip; exact rfl; exact want_f rfl rfl rfl (by exact rfl); apply q_skip; exact rfl; exact want_f rfl rfl rfl (by exact rfl); apply q_skip; exact rfl; exact want_f rfl rfl rfl (by exact rfl); apply q_skip; exact rfl; exact want_f rfl rfl rfl (by exact rfl); apply q_skip; exact rfl; exact want_f rfl rfl rfl (by exact rfl); apply r_op; exact rfl
  exact rfl; apply g_pick; apply a_pickT rfl (by exact rfl); (conv => (lhs; whnf)); apply r_op; exact rfl; exact rfl; apply a_move; (conv => (lhs; whnf)); apply q_skip; exact rfl; exact want_f rfl rfl rfl (by exact rfl); apply q_skip; exact rfl; exact want_f rfl rfl rfl (by exact rfl); apply q_skip; exact rfl; exact want_f rfl rfl rfl (by exact rfl); apply q_skip; exact rfl
  exact want_f rfl rfl rfl (by exact rfl); apply q_skip; exact rfl; exact want_f rfl rfl rfl (by exact rfl); apply r_op; exact rfl; exact rfl; apply g_pick; apply a_pickT rfl (by exact rfl); (conv => (lhs; whnf)); apply r_op; exact rfl; exact rfl; apply a_move; (conv => (lhs; whnf)); apply q_skip; exact rfl; exact want_f rfl rfl rfl (by exact rfl); apply q_skip; exact rfl
  exact want_f rfl rfl rfl (by exact rfl); apply q_skip; exact rfl; exact want_f rfl rfl rfl (by exact rfl); apply q_skip; exact rfl; exact want_f rfl rfl rfl (by exact rfl); apply q_skip; exact rfl; exact want_f rfl rfl rfl (by exact rfl); apply r_op; exact rfl; exact rfl; apply g_pick; apply a_pickT rfl (by exact rfl); (conv => (lhs; whnf)); apply r_op; exact rfl; exact rfl; apply a_move
  (conv => (lhs; whnf)); apply q_skip; exact rfl; exact want_f rfl rfl rfl (by exact rfl); apply q_skip; exact rfl; exact want_f rfl rfl rfl (by exact rfl); apply q_skip; exact rfl; exact want_f rfl rfl rfl (by exact rfl); apply q_skip; exact rfl; exact want_f rfl rfl rfl (by exact rfl); apply q_skip; exact rfl; exact want_f rfl rfl rfl (by exact rfl); apply r_op; exact rfl; exact rfl; apply g_pick
  apply a_pickT rfl (by exact rfl); (conv => (lhs; whnf)); apply r_op; exact rfl; exact rfl; apply a_move; (conv => (lhs; whnf)); apply q_skip; exact rfl; exact want_f rfl rfl rfl (by exact rfl); apply q_skip; exact rfl; exact want_f rfl rfl rfl (by exact rfl); apply q_skip; exact rfl; exact want_f rfl rfl rfl (by exact rfl); apply q_skip; exact rfl; exact want_f rfl rfl rfl (by exact rfl)
  apply q_skip; exact rfl; exact want_f rfl rfl rfl (by exact rfl); apply q_skip; exact rfl; exact want_f rfl rfl rfl (by exact rfl); apply q_skip; exact rfl; exact want_f rfl rfl rfl (by exact rfl); apply r_op; exact rfl; exact rfl; apply g_pick; apply a_pickT rfl (by exact rfl); (conv => (lhs; whnf)); (with_reducible refine runs_done ?_); refine W.condT rfl (by exact rfl) ?_; refine W.seq ?_
  refine W.regionL (by decide +kernel) rfl ?_; apply r_op; exact rfl; exact rfl; apply a_assign; (conv => (lhs; whnf)); (with_reducible refine runs_done ?_); refine W.ret ?_; show Q Exit.ret _ _; refine post_q hQ (by apply res_tmp; exact rfl; exact res_nil) (.inl rfl) (by exact .refl _) ?_; (conv => (lhs; whnf)); rotate_left; apply r_op; exact rfl; exact want_t rfl rfl rfl (by assumption)
  apply g_fieldAddr; exact a_fieldAddr1 rfl (by decide) rfl; apply r_op; exact rfl; exact want_t rfl rfl rfl (by assumption); apply g_load; exact a_load1 rfl rfl; apply r_op; exact rfl; exact want_t rfl rfl rfl (by assumption); apply g_fieldAddr; exact a_fieldAddr1 rfl (by decide) rfl; apply r_op; exact rfl; exact want_t rfl rfl rfl (by assumption); apply g_load; exact a_load1 rfl rfl; apply r_op
  exact rfl; exact want_t rfl rfl rfl (by assumption); apply g_binOp; exact a_binS rfl rfl rfl rfl; apply r_op; exact rfl; exact rfl; apply g_pick; apply a_pickF rfl (by assumption); (conv => (lhs; whnf)); apply r_op; exact rfl; exact rfl; apply a_move; (conv => (lhs; whnf)); refine q_split rfl rfl rfl (fun hg => ?_) (fun hg => ?_); apply q_skip; exact rfl; exact want_f rfl rfl rfl (by assumption)
  apply q_skip; exact rfl; exact want_f rfl rfl rfl (by assumption); apply q_skip; exact rfl; exact want_f rfl rfl rfl (by assumption); apply q_skip; exact rfl; exact want_f rfl rfl rfl (by assumption); apply q_skip; exact rfl; exact want_f rfl rfl rfl (by assumption); apply r_op; exact rfl; exact rfl; apply g_pick; apply a_pickT rfl (by assumption); (conv => (lhs; whnf)); apply r_op; exact rfl
  exact rfl; apply a_move; (conv => (lhs; whnf)); apply q_skip; exact rfl; exact want_f rfl rfl rfl (by exact rfl); apply q_skip; exact rfl; exact want_f rfl rfl rfl (by exact rfl); apply q_skip; exact rfl; exact want_f rfl rfl rfl (by exact rfl); apply q_skip; exact rfl; exact want_f rfl rfl rfl (by exact rfl); apply q_skip; exact rfl; exact want_f rfl rfl rfl (by exact rfl); apply r_op; exact rfl
  exact rfl; apply g_pick; apply a_pickT rfl (by exact rfl); (conv => (lhs; whnf)); apply r_op; exact rfl; exact rfl; apply a_move; (conv => (lhs; whnf)); apply q_skip; exact rfl; exact want_f rfl rfl rfl (by exact rfl); apply q_skip; exact rfl; exact want_f rfl rfl rfl (by exact rfl); apply q_skip; exact rfl; exact want_f rfl rfl rfl (by exact rfl); apply q_skip; exact rfl
  exact want_f rfl rfl rfl (by exact rfl); apply q_skip; exact rfl; exact want_f rfl rfl rfl (by exact rfl); apply r_op; exact rfl; exact rfl; apply g_pick; apply a_pickT rfl (by exact rfl); (conv => (lhs; whnf)); apply r_op; exact rfl; exact rfl; apply a_move; (conv => (lhs; whnf)); apply q_skip; exact rfl; exact want_f rfl rfl rfl (by exact rfl); apply q_skip; exact rfl
  exact want_f rfl rfl rfl (by exact rfl); apply q_skip; exact rfl; exact want_f rfl rfl rfl (by exact rfl); apply q_skip; exact rfl; exact want_f rfl rfl rfl (by exact rfl); apply q_skip; exact rfl; exact want_f rfl rfl rfl (by exact rfl); apply r_op; exact rfl; exact rfl; apply g_pick; apply a_pickT rfl (by exact rfl); (conv => (lhs; whnf)); apply r_op; exact rfl; exact rfl; apply a_move
  (conv => (lhs; whnf)); apply q_skip; exact rfl; exact want_f rfl rfl rfl (by exact rfl); apply q_skip; exact rfl; exact want_f rfl rfl rfl (by exact rfl); apply q_skip; exact rfl; exact want_f rfl rfl rfl (by exact rfl); apply q_skip; exact rfl; exact want_f rfl rfl rfl (by exact rfl); apply q_skip; exact rfl; exact want_f rfl rfl rfl (by exact rfl); apply q_skip; exact rfl
  exact want_f rfl rfl rfl (by exact rfl); apply q_skip; exact rfl; exact want_f rfl rfl rfl (by exact rfl); apply r_op; exact rfl; exact rfl; apply g_pick; apply a_pickT rfl (by exact rfl); (conv => (lhs; whnf)); (with_reducible refine runs_done ?_); refine W.condT rfl (by exact rfl) ?_; refine W.seq ?_; refine W.regionL (by decide +kernel) rfl ?_; apply r_op; exact rfl; exact rfl; apply a_assign
  (conv => (lhs; whnf)); (with_reducible refine runs_done ?_); refine W.ret ?_; show Q Exit.ret _ _; refine post_q hQ (by apply res_tmp; exact rfl; exact res_nil) (.inl rfl) (by exact .refl _) ?_; (conv => (lhs; whnf)); rotate_left; apply r_op; exact rfl; exact want_t rfl rfl rfl (by assumption); apply g_fieldAddr; exact a_fieldAddr1 rfl (by decide) rfl; apply r_op; exact rfl
  exact want_t rfl rfl rfl (by assumption); apply g_load; exact a_load1 rfl rfl; apply r_op; exact rfl; exact want_t rfl rfl rfl (by assumption); apply g_fieldAddr; exact a_fieldAddr1 rfl (by decide) rfl; apply r_op; exact rfl; exact want_t rfl rfl rfl (by assumption); apply g_load; exact a_load1 rfl rfl; apply r_op; exact rfl; exact want_t rfl rfl rfl (by assumption); apply g_binOp
  exact a_binI rfl rfl rfl; apply r_op; exact rfl; exact rfl; apply g_pick; apply a_pickF rfl (by assumption); (conv => (lhs; whnf)); apply r_op; exact rfl; exact rfl; apply a_move; (conv => (lhs; whnf)); refine q_split rfl rfl rfl (fun hg => ?_) (fun hg => ?_); apply q_skip; exact rfl; exact want_f rfl rfl rfl (by assumption); apply q_skip; exact rfl; exact want_f rfl rfl rfl (by assumption)
  apply q_skip; exact rfl; exact want_f rfl rfl rfl (by assumption); apply q_skip; exact rfl; exact want_f rfl rfl rfl (by assumption); apply q_skip; exact rfl; exact want_f rfl rfl rfl (by assumption); apply r_op; exact rfl; exact rfl; apply g_pick; apply a_pickT rfl (by assumption); (conv => (lhs; whnf)); apply r_op; exact rfl; exact rfl; apply a_move; (conv => (lhs; whnf)); apply q_skip
  exact rfl; exact want_f rfl rfl rfl (by exact rfl); apply q_skip; exact rfl; exact want_f rfl rfl rfl (by exact rfl); apply q_skip; exact rfl; exact want_f rfl rfl rfl (by exact rfl); apply q_skip; exact rfl; exact want_f rfl rfl rfl (by exact rfl); apply q_skip; exact rfl; exact want_f rfl rfl rfl (by exact rfl); apply r_op; exact rfl; exact rfl; apply g_pick; apply a_pickT rfl (by exact rfl)
  (conv => (lhs; whnf)); apply r_op; exact rfl; exact rfl; apply a_move; (conv => (lhs; whnf)); apply q_skip; exact rfl; exact want_f rfl rfl rfl (by exact rfl); apply q_skip; exact rfl; exact want_f rfl rfl rfl (by exact rfl); apply q_skip; exact rfl; exact want_f rfl rfl rfl (by exact rfl); apply q_skip; exact rfl; exact want_f rfl rfl rfl (by exact rfl); apply q_skip; exact rfl
  exact want_f rfl rfl rfl (by exact rfl); apply r_op; exact rfl; exact rfl; apply g_pick; apply a_pickT rfl (by exact rfl); (conv => (lhs; whnf)); apply r_op; exact rfl; exact rfl; apply a_move; (conv => (lhs; whnf)); apply q_skip; exact rfl; exact want_f rfl rfl rfl (by exact rfl); apply q_skip; exact rfl; exact want_f rfl rfl rfl (by exact rfl); apply q_skip; exact rfl
  exact want_f rfl rfl rfl (by exact rfl); apply q_skip; exact rfl; exact want_f rfl rfl rfl (by exact rfl); apply q_skip; exact rfl; exact want_f rfl rfl rfl (by exact rfl); apply q_skip; exact rfl; exact want_f rfl rfl rfl (by exact rfl); apply q_skip; exact rfl; exact want_f rfl rfl rfl (by exact rfl); apply r_op; exact rfl; exact rfl; apply g_pick; apply a_pickT rfl (by exact rfl)
  (conv => (lhs; whnf)); (with_reducible refine runs_done ?_); refine W.condT rfl (by exact rfl) ?_; refine W.seq ?_; refine W.regionL (by decide +kernel) rfl ?_; apply r_op; exact rfl; exact rfl; apply a_assign; (conv => (lhs; whnf)); (with_reducible refine runs_done ?_); refine W.ret ?_; show Q Exit.ret _ _
  refine post_q hQ (by apply res_tmp; exact rfl; exact res_nil) (.inl rfl) (by exact .refl _) ?_; (conv => (lhs; whnf)); rotate_left; apply r_op; exact rfl; exact want_t rfl rfl rfl (by assumption); apply g_fieldAddr; exact a_fieldAddr1 rfl (by decide) rfl; apply r_op; exact rfl; exact want_t rfl rfl rfl (by assumption); apply g_load; exact a_load1 rfl rfl; apply r_op; exact rfl
  exact want_t rfl rfl rfl (by assumption); apply g_fieldAddr; exact a_fieldAddr1 rfl (by decide) rfl; apply r_op; exact rfl; exact want_t rfl rfl rfl (by assumption); apply g_load; exact a_load1 rfl rfl; apply r_op; exact rfl; exact want_t rfl rfl rfl (by assumption); apply g_binOp; exact a_binI rfl rfl rfl; apply r_op; exact rfl; exact rfl; apply g_pick; apply a_pickF rfl (by assumption)
  (conv => (lhs; whnf)); apply r_op; exact rfl; exact rfl; apply a_move; (conv => (lhs; whnf)); refine q_split rfl rfl rfl (fun hg => ?_) (fun hg => ?_); apply q_skip; exact rfl; exact want_f rfl rfl rfl (by assumption); apply q_skip; exact rfl; exact want_f rfl rfl rfl (by assumption); apply q_skip; exact rfl; exact want_f rfl rfl rfl (by assumption); apply q_skip; exact rfl
  exact want_f rfl rfl rfl (by assumption); apply q_skip; exact rfl; exact want_f rfl rfl rfl (by assumption); apply r_op; exact rfl; exact rfl; apply g_pick; apply a_pickT rfl (by assumption); (conv => (lhs; whnf)); apply r_op; exact rfl; exact rfl; apply a_move; (conv => (lhs; whnf)); apply q_skip; exact rfl; exact want_f rfl rfl rfl (by exact rfl); apply q_skip; exact rfl
  exact want_f rfl rfl rfl (by exact rfl); apply q_skip; exact rfl; exact want_f rfl rfl rfl (by exact rfl); apply q_skip; exact rfl; exact want_f rfl rfl rfl (by exact rfl); apply q_skip; exact rfl; exact want_f rfl rfl rfl (by exact rfl); apply r_op; exact rfl; exact rfl; apply g_pick; apply a_pickT rfl (by exact rfl); (conv => (lhs; whnf)); apply r_op; exact rfl; exact rfl; apply a_move
  (conv => (lhs; whnf)); apply q_skip; exact rfl; exact want_f rfl rfl rfl (by exact rfl); apply q_skip; exact rfl; exact want_f rfl rfl rfl (by exact rfl); apply q_skip; exact rfl; exact want_f rfl rfl rfl (by exact rfl); apply q_skip; exact rfl; exact want_f rfl rfl rfl (by exact rfl); apply q_skip; exact rfl; exact want_f rfl rfl rfl (by exact rfl); apply q_skip; exact rfl
  exact want_f rfl rfl rfl (by exact rfl); apply q_skip; exact rfl; exact want_f rfl rfl rfl (by exact rfl); apply r_op; exact rfl; exact rfl; apply g_pick; apply a_pickT rfl (by exact rfl); (conv => (lhs; whnf)); (with_reducible refine runs_done ?_); refine W.condT rfl (by exact rfl) ?_; refine W.seq ?_; refine W.regionL (by decide +kernel) rfl ?_; apply r_op; exact rfl; exact rfl; apply a_assign
  (conv => (lhs; whnf)); (with_reducible refine runs_done ?_); refine W.ret ?_; show Q Exit.ret _ _; refine post_q hQ (by apply res_tmp; exact rfl; exact res_nil) (.inl rfl) (by exact .refl _) ?_; (conv => (lhs; whnf)); rotate_left; apply r_op; exact rfl; exact want_t rfl rfl rfl (by assumption); apply g_fieldAddr; exact a_fieldAddr1 rfl (by decide) rfl; apply r_op; exact rfl
  exact want_t rfl rfl rfl (by assumption); apply g_load; exact a_load1 rfl rfl; apply r_op; exact rfl; exact want_t rfl rfl rfl (by assumption); apply g_fieldAddr; exact a_fieldAddr1 rfl (by decide) rfl; apply r_op; exact rfl; exact want_t rfl rfl rfl (by assumption); apply g_load; exact a_load1 rfl rfl; apply r_op; exact rfl; exact want_t rfl rfl rfl (by assumption); apply g_binOp
  exact a_binI rfl rfl rfl; apply r_op; exact rfl; exact rfl; apply g_pick; apply a_pickF rfl (by assumption); (conv => (lhs; whnf)); apply r_op; exact rfl; exact rfl; apply a_move; (conv => (lhs; whnf)); refine q_split rfl rfl rfl (fun hg => ?_) (fun hg => ?_); apply q_skip; exact rfl; exact want_f rfl rfl rfl (by assumption); apply q_skip; exact rfl; exact want_f rfl rfl rfl (by assumption)
  apply q_skip; exact rfl; exact want_f rfl rfl rfl (by assumption); apply q_skip; exact rfl; exact want_f rfl rfl rfl (by assumption); apply q_skip; exact rfl; exact want_f rfl rfl rfl (by assumption); apply r_op; exact rfl; exact rfl; apply g_pick; apply a_pickT rfl (by assumption); (conv => (lhs; whnf)); apply r_op; exact rfl; exact rfl; apply a_move; (conv => (lhs; whnf)); apply q_skip
  exact rfl; exact want_f rfl rfl rfl (by exact rfl); apply q_skip; exact rfl; exact want_f rfl rfl rfl (by exact rfl); apply q_skip; exact rfl; exact want_f rfl rfl rfl (by exact rfl); apply q_skip; exact rfl; exact want_f rfl rfl rfl (by exact rfl); apply q_skip; exact rfl; exact want_f rfl rfl rfl (by exact rfl); apply q_skip; exact rfl; exact want_f rfl rfl rfl (by exact rfl); apply q_skip
  exact rfl; exact want_f rfl rfl rfl (by exact rfl); apply r_op; exact rfl; exact rfl; apply g_pick; apply a_pickT rfl (by exact rfl); (conv => (lhs; whnf)); (with_reducible refine runs_done ?_); refine W.condT rfl (by exact rfl) ?_; refine W.seq ?_; refine W.regionL (by decide +kernel) rfl ?_; apply r_op; exact rfl; exact rfl; apply a_assign; (conv => (lhs; whnf))
  (with_reducible refine runs_done ?_); refine W.ret ?_; show Q Exit.ret _ _; refine post_q hQ (by apply res_tmp; exact rfl; exact res_nil) (.inl rfl) (by exact .refl _) ?_; (conv => (lhs; whnf)); rotate_left; apply r_op; exact rfl; exact want_t rfl rfl rfl (by assumption); apply g_fieldAddr; exact a_fieldAddr1 rfl (by decide) rfl; apply r_op; exact rfl; exact want_t rfl rfl rfl (by assumption)
  apply g_load; exact a_load1 rfl rfl; apply r_op; exact rfl; exact want_t rfl rfl rfl (by assumption); apply g_fieldAddr; exact a_fieldAddr1 rfl (by decide) rfl; apply r_op; exact rfl; exact want_t rfl rfl rfl (by assumption); apply g_load; exact a_load1 rfl rfl; apply r_op; exact rfl; exact want_t rfl rfl rfl (by assumption); apply g_binOp; exact a_binS rfl rfl rfl rfl; apply r_op; exact rfl
  exact rfl; apply g_pick; apply a_pickF rfl (by assumption); (conv => (lhs; whnf)); apply r_op; exact rfl; exact rfl; apply a_move; (conv => (lhs; whnf)); refine q_split rfl rfl rfl (fun hg => ?_) (fun hg => ?_); apply q_skip; exact rfl; exact want_f rfl rfl rfl (by assumption); apply q_skip; exact rfl; exact want_f rfl rfl rfl (by assumption); apply q_skip; exact rfl
  exact want_f rfl rfl rfl (by assumption); apply q_skip; exact rfl; exact want_f rfl rfl rfl (by assumption); apply q_skip; exact rfl; exact want_f rfl rfl rfl (by assumption); apply q_skip; exact rfl; exact want_f rfl rfl rfl (by assumption); apply q_skip; exact rfl; exact want_f rfl rfl rfl (by assumption); apply r_op; exact rfl; exact rfl; apply g_pick; apply a_pickT rfl (by assumption)
  (conv => (lhs; whnf)); (with_reducible refine runs_done ?_); refine W.condT rfl (by exact rfl) ?_; refine W.seq ?_; refine W.regionL (by decide +kernel) rfl ?_; apply r_op; exact rfl; exact rfl; apply a_assign; (conv => (lhs; whnf)); (with_reducible refine runs_done ?_); refine W.ret ?_; show Q Exit.ret _ _
  refine post_q hQ (by apply res_tmp; exact rfl; exact res_nil) (.inl rfl) (by exact .refl _) ?_; (conv => (lhs; whnf)); rotate_left; apply r_op; exact rfl; exact want_t rfl rfl rfl (by assumption); apply g_fieldAddr; exact a_fieldAddr1 rfl (by decide) rfl; apply r_op; exact rfl; exact want_t rfl rfl rfl (by assumption); apply g_load; exact a_load1 rfl rfl; apply r_op; exact rfl
  exact want_t rfl rfl rfl (by assumption); apply g_call; exact a_len_slc rfl; apply r_op; exact rfl; exact want_t rfl rfl rfl (by assumption); apply g_fieldAddr; exact a_fieldAddr1 rfl (by decide) rfl; apply r_op; exact rfl; exact want_t rfl rfl rfl (by assumption); apply g_load; exact a_load1 rfl rfl; apply r_op; exact rfl; exact want_t rfl rfl rfl (by assumption); apply g_call
  exact a_len_slc rfl; apply r_op; exact rfl; exact want_t rfl rfl rfl (by assumption); apply g_binOp; exact a_binI rfl rfl rfl; apply r_op; exact rfl; exact rfl; apply g_pick; apply a_pickF rfl (by assumption); (conv => (lhs; whnf)); (with_reducible refine runs_done ?_); refine W.cond rfl (fun hc => ?_) (fun hc => ?_); refine W.seq ?_; refine W.regionL (by decide +kernel) rfl ?_; apply r_op
  exact rfl; exact rfl; apply a_assign; (conv => (lhs; whnf)); (with_reducible refine runs_done ?_); refine W.ret ?_; show Q Exit.ret _ _; refine post_q hQ (by apply res_tmp; exact rfl; exact res_nil) (.inl rfl) (by exact .refl _) ?_; (conv => (lhs; whnf)); rotate_left; refine W.skip ?_; show W _ _ _ _ _ _ _; refine W.seq ?_; refine W.seq ?_; refine W.regionL (by decide +kernel) rfl ?_; apply r_op
  exact rfl; exact rfl; apply a_assign; (conv => (lhs; whnf)); (with_reducible refine runs_done ?_); refine W.block ?_; rotate_left
  · have : ¬ x = y := fun e => by subst e; simp at hg
    simp [this]
  · have : ¬ x = y := fun e => by subst e; simp at hg
    simp [this]
  · have : ¬ x = y := fun e => by subst e; simp at hg
    simp [this]
  · have : ¬ x = y := fun e => by subst e; simp at hg
    simp [this]
  · have : ¬ x = y := fun e => by subst e; simp at hg
    simp [this]
  · have : ¬ x = y := fun e => by subst e; simp at hg
    simp [this]
  · have : ¬ x = y := fun e => by subst e; simp at hg
    simp [this]
  · have : ¬ x = y := fun e => by subst e; simp at hg
    simp [this]
  · have : ¬ x = y := fun e => by subst e; simp at hc
    simp [this]
  · have e1 : x.id = y.id := by simpa using ‹(!decide (x.id = y.id)) = false›
    have e2 : x.name = y.name := by simpa using ‹(!decide (x.name = y.name)) = false›
    have e3 : x.topic = y.topic := by simpa using ‹(!decide (x.topic = y.topic)) = false›
    have e4 : x.want = y.want := by simpa using ‹(!decide (x.want = y.want)) = false›
    have e5 : x.lease = y.lease := by simpa using ‹(!decide (x.lease = y.lease)) = false›
    have e6 : x.most = y.most := by simpa using ‹(!decide (x.most = y.most)) = false›
    have e7 : x.floor = y.floor := by simpa using ‹(!decide (x.floor = y.floor)) = false›
    have e8 : x.note = y.note := by simpa using ‹(!decide (x.note = y.note)) = false›
    have hlen : x.acks.length = y.acks.length := by simp at hc; omega
    · refine W.loop (fun k E s => ∃ i : Nat, i ≤ x.acks.length ∧ k = x.acks.length - i ∧ s = σ ∧ x.acks.take i = y.acks.take i ∧ Has [(2, .vp (eSub x)), (3, .vp (eSub y)), (5, .int .i64 i)] E) x.acks.length ⟨0, Nat.zero_le _, rfl, rfl, by simp, by exact Has.by (by repeat (first | exact trivial | refine ⟨by first | trivial | exact Weak.refl _ | exact Weak.tok _ _ _ | exact Weak.of_eq (congrArg (AV.int _) (by omega)) | exact Weak.of_eq (congrArg AV.bool (by fail)) | exact Weak.nils _ _ (.inr rfl), ?_⟩))⟩ ?_
      rintro k E s ⟨i, hi, rfl, rfl, htk, hE⟩; refine W.has hE ?_; clear hE hc; refine W.seq ?_; refine W.seq ?_; refine W.regionL (by decide +kernel) rfl ?_; apply r_op; exact rfl; exact rfl; apply a_move; (conv => (lhs; whnf)); apply r_op; exact rfl; exact rfl; apply g_fieldAddr; exact a_fieldAddr1 rfl (by decide) rfl; apply r_op; exact rfl; exact rfl; apply g_load; exact a_load1 rfl rfl
      apply r_op; exact rfl; exact rfl; apply g_call; exact a_len_slc rfl; apply r_op; exact rfl; exact rfl; apply g_binOp; exact a_binI rfl rfl rfl; (with_reducible refine runs_done ?_); refine W.cond rfl (fun hc => ?_) (fun hc => ?_)
      · have hlt : i < x.acks.length := by simp at hc; omega
        have ga : x.acks[i]? = some x.acks[i] := by simp [hlt]
        have gb : y.acks[i]? = some (y.acks[i]'(by omega)) := List.getElem?_eq_getElem (by omega)
        have ht := take_succ_iff hlt (show i < y.acks.length by omega) htk
        generalize x.acks[i] = a at ga ht
        generalize y.acks[i]'(by omega) = b at gb ht
        refine W.skip ?_; show W _ _ _ _ _ _ _; refine W.seq ?_; refine W.block ?_; refine W.seq ?_; refine W.regionDK 1 [] Ty.mixed (by decide +kernel) (by decide +kernel) rfl ?_; apply r_op; exact rfl; exact rfl; apply g_fieldAddr; exact a_fieldAddr1 rfl (by decide) rfl; apply r_op; exact rfl; exact rfl; apply g_load; exact a_load1 rfl rfl; apply r_op; exact rfl; exact rfl; apply a_move
        (conv => (lhs; whnf)); apply r_op; exact rfl; exact rfl; apply g_indexAddr; exact a_indexAddr rfl rfl (by decide) (by omega) (by exact get_map ga); apply r_op; exact rfl; exact rfl; apply g_load; exact a_load1 rfl rfl; apply r_op; exact rfl; exact rfl; apply g_fieldAddr; exact a_fieldAddr1 rfl (by decide) rfl; apply r_op; exact rfl; exact rfl; apply g_load; exact a_load1 rfl rfl; apply r_op
        exact rfl; exact rfl; apply a_move; (conv => (lhs; whnf)); apply r_op; exact rfl; exact rfl; apply g_indexAddr; exact a_indexAddr rfl rfl (by decide) (by omega) (by exact get_map gb); apply r_op; exact rfl; exact rfl; apply g_load; exact a_load1 rfl rfl; apply r_op; exact rfl; exact rfl; apply g_binOp; exact a_binI rfl rfl rfl; (with_reducible refine runs_done ?_)
        refine W.cond rfl (fun hc => ?_) (fun hc => ?_); refine W.seq ?_; refine W.regionL (by decide +kernel) rfl ?_; apply r_op; exact rfl; exact rfl; apply a_assign; (conv => (lhs; whnf)); (with_reducible refine runs_done ?_); refine W.ret ?_; show Q Exit.ret _ _; refine post_q hQ (by apply res_tmp; exact rfl; exact res_nil) (.inl rfl) (by exact .refl _) ?_; (conv => (lhs; whnf)); rotate_left
        refine W.skip ?_; show W _ _ _ _ _ _ _; refine W.regionL (by decide +kernel) rfl ?_; apply r_op; exact rfl; exact rfl; apply a_move; (conv => (lhs; whnf)); apply r_op; exact rfl; exact rfl; apply g_binOp; exact a_add64 rfl rfl (by omega); apply r_op; exact rfl; exact rfl; apply a_assign; (conv => (lhs; whnf)); (with_reducible refine runs_done ?_); rotate_left
        · have : ¬ x = y := fun e => by subst e; rw [ga] at gb; cases gb; simp at hc
          simp [this]
        · have hxy : a = b := by simpa using hc
          exact ⟨x.acks.length - (i + 1), by omega, i + 1, by omega, rfl, rfl, ht.2 hxy, by exact Has.by (by repeat (first | exact trivial | refine ⟨by first | trivial | exact Weak.refl _ | exact Weak.tok _ _ _ | exact Weak.of_eq (congrArg (AV.int _) (by omega)) | exact Weak.of_eq (congrArg AV.bool (by fail)) | exact Weak.nils _ _ (.inr rfl), ?_⟩))⟩
      · have hge : i = x.acks.length := by simp at hc; omega
        have e9 : x.acks = y.acks := by rw [hge, List.take_length, hlen, List.take_length] at htk; exact htk
        have : x = y ↔ x.queue = y.queue := ⟨fun h => by rw [h], fun h => sub_ext e1 e2 e3 e4 e5 e6 e7 e9 h e8⟩
        refine W.exit ?_; show W _ _ _ _ _ _ _; refine W.seq ?_; refine W.regionL (by decide +kernel) rfl ?_; apply r_op; exact rfl; exact rfl; apply g_fieldAddr; exact a_fieldAddr1 rfl (by decide) rfl; apply r_op; exact rfl; exact rfl; apply g_load; exact a_load1 rfl rfl; apply r_op; exact rfl; exact rfl; apply g_fieldAddr; exact a_fieldAddr1 rfl (by decide) rfl; apply r_op; exact rfl; exact rfl
        apply g_load; exact a_load1 rfl rfl; apply r_callP; exact rfl; exact rfl; exact rfl; exact rfl; exact rfl; infer_instance; exact sameMsgs_any w0 _ _ _ _ hq; apply r_op; exact rfl; exact rfl; apply a_assign; (conv => (lhs; whnf)); (with_reducible refine runs_done ?_); refine W.ret ?_; show Q Exit.ret _ _
        refine post_q hQ (by apply res_tmp; exact rfl; exact res_nil) (.inl rfl) (by exact .refl _) ?_; (conv => (lhs; whnf))
        simp [this]
end Go.Proofs.YtkbmkhhcppfcnaaDoor
end
section
set_option linter.unusedVariables false
set_option linter.unusedSimpArgs false
set_option maxRecDepth 100000
set_option maxHeartbeats 1000000
namespace Go.Proofs.YtkbmkhhcppfcnaaDoor
open Go.Al Go.RowKit
theorem twoKeys_any (w0 : World) (hL : Laid w0) (c : List UInt8) (t : Tok) (k : UInt8) (hc : c.length ≤ 9223372036854775807) (σ : St) : CallW Tryd.prog w0 11 [.slc 1 (aBytes c) t, .int .u8 k.toNat] σ (fun r _ => r = .bool true) := by
  have hk := k.toNat_lt
  refine CallW.x Ty.tok Ty.mixed Tryd.func11 rfl Tryd.ntmps11 rfl (by simp) (by decide +kernel) (.nil σ) ?_; (conv => whnf); refine SCall.w (by exact lawsub2_any w0 c t k hc _) rfl ?_; rintro r s ⟨x1, rfl, hx1, hs1⟩ hB
  replace hs1 := hs1.symm
  subst hs1
  refine ⟨_, hB, ?_⟩; clear hB; (conv => whnf); intro b1 hb1; (conv => whnf); refine SStore.on 0 rfl ?_; (conv => whnf); refine SLoad.on 0 rfl ?_; (conv => whnf)
  have hg : Grown (1 + k.toNat) 9 (2 + k.toNat) x1 := hx1
  have hfx := hg.fits
  have hid : ((cl x1.id : Nat) : Int) = x1.id := cl_nn (by have := hg.id; omega)
  have hup := enc2_up (hg.good2 (by omega) (by omega) (by omega))
  have hrow := fun r hr => enc2_row (r := r) hg (by omega) hr
  have hlen := enc2_few x1
  have hnq := hg.nqueue
  have hlong := enc2_long x1
  have henc := enc2_p w0 hL x1 hfx
  generalize enc2 x1 = l at hup hrow hlen hlong henc
  have d5 : decide (1 + ((x1.queue.map eMsg).length : Int) ≤ ((l.map eRow).length : Int)) = true := decide_eq_true (by simp; omega)
  refine SCall.p (by exact henc) ?_; (conv => whnf)
  refine SLoop.fz 5 0 σ [] rfl (by repeat (first | assumption | exact .refl _ | refine le_new2 ?_ (by assumption) | refine le_new ?_ (by assumption) | refine le_setBox ?_ (by first | assumption | exact none_in (by assumption) | exact none_in (none_in (by assumption)) | exact none_in (none_in (none_in (by assumption))) | fail) | exact Moves.le (by assumption) | refine .trans ?_ (Moves.le (by assumption)))) hb1 (.nil σ) rfl rfl ?_
  refine SLoop.by Ty.mixed (fun i => l.length - i) (fun i => [(5, .vp (eSub x1)), (6, .slc 2 (l.map eRow) .no), (7, .int .i64 i)]) (fun _ => []) (fun i s => i ≤ l.length) 0 ⟨by repeat (first | exact trivial | refine ⟨by first | trivial | exact Weak.refl _ | exact Weak.tok _ _ _ | exact Weak.of_eq (congrArg (AV.int _) (by omega)) | exact Weak.of_eq (congrArg AV.bool (by fail)) | exact Weak.nils _ _ (.inr rfl), ?_⟩), BSub.none _, Nat.zero_le _⟩ ?_
  rintro i s hi; (conv => whnf)
  skip
  (refine SIf.x Ty.mixed (fun hc => ?_) (fun hc => ?_) <;> (conv => whnf))
  · have hlt : i < l.length := by simp at hc; omega
    have ga : l[i]? = some l[i] := by simp [hlt]
    obtain ⟨⟨u, seq, hu, hkey⟩, hval⟩ := hrow l[i] (List.getElem_mem hlt)
    have hp := partsR_any w0 hL l[i].key (by rw [hkey, rkey_length]; decide)
    rw [hkey, parts_rkey (by decide) hu, ePts, hid] at hp
    have hprev : ¬ i = 0 → ∃ pv, l[((i : Int) - 1).toNat]? = some pv ∧ (ltS l[i].key pv.key || decide (l[i].key = pv.key)) = false := fun h0 => by
      obtain ⟨j, rfl⟩ : ∃ j, i = j + 1 := ⟨i - 1, by omega⟩
      have gj : l[j]? = some (l[j]'(by omega)) := by simp
      refine ⟨l[j]'(by omega), by rw [show (((j + 1 : Nat) : Int) - 1).toNat = j by omega]; exact gj, ltS_not_le (hup.get gj ga)⟩
    rw [hkey] at hprev
    have d1 : (!decide (x1.id = x1.id)) = false := by simp
    have d2 : decide ((150 : Int) < ((aBytes l[i].val).length : Int)) = false := decide_eq_false (by rw [length_aBytes]; omega)
    generalize l[i] = r at ga hkey hval hp hprev d2
    rw [← hkey] at hp hprev
    clear hkey hval hc hu
    by_cases h0 : i = 0
    · subst h0
      have d3 : decide ((0 : Int) < ((0 : Nat) : Int)) = false := rfl
      refine ⟨_, ⟨by first | omega | (simp only [List.length_cons, List.length_append, List.length_nil, List.length_map, length_aBytes, List.length_replicate, List.length_range]; omega) | fail, by exact get_map ga⟩, ?_⟩
      (conv => whnf); refine SCall.p (by exact hp) ?_; (conv => whnf); refine SReg.d [0, 1, 2, 3, 4, 5, 6, 7, 8, 9, 10, 11, 12, 13, 14, 15, 16, 17, 18, 19, 20, 21, 22, 23, 24, 25, 26, 27, 28, 29, 30, 31, 32, 33, 34, 35, 36, 37, 38] [0, 0, 0, 0, 0, 0, 0, 0, 0, 0, 0, 0, 0, 0, 0, 0, 0, 0, 0, 0, 0, 0, 0, 0, 0, 0, 0, 0, 0, 0, 0, 0, 0, 0, 0, 0, 0, 0, 0] (by decide +kernel) ?_; (conv => whnf); (conv => whnf); refine SCond.n (by exact rfl) ?_; (conv => whnf); refine SCond.n (by exact rfl) ?_; (conv => whnf); refine SPick.n (by exact rfl) ?_; (conv => whnf); refine SCond.n (by exact rfl) ?_; (conv => whnf)
      refine SCond.n (by exact rfl) ?_; (conv => whnf); refine SCond.n (by exact rfl) ?_; (conv => whnf); refine SCond.n (by exact rfl) ?_; (conv => whnf); refine SPick.n (by exact rfl) ?_; (conv => whnf); refine SCond.n (by assumption) ?_; (conv => whnf); refine SCond.n (by assumption) ?_; (conv => whnf); refine SCond.n (by assumption) ?_; (conv => whnf)
      refine ⟨_, ⟨by first | omega | (simp only [List.length_cons, List.length_append, List.length_nil, List.length_map, length_aBytes, List.length_replicate, List.length_range]; omega) | fail, by exact get_map ga⟩, ?_⟩
      (conv => whnf); refine SCond.n (by assumption) ?_; (conv => whnf); refine SCond.n (by assumption) ?_; (conv => whnf); refine SCond.n (by assumption) ?_; (conv => whnf); refine SCond.n (by assumption) ?_; (conv => whnf); refine SPick.n (by assumption) ?_; (conv => whnf); refine SCond.n (by assumption) ?_; (conv => whnf); refine SCond.n (by assumption) ?_; (conv => whnf)
      refine SCond.n (by assumption) ?_; (conv => whnf); refine SCond.n (by exact rfl) ?_; (conv => whnf); refine SCond.n (by exact rfl) ?_; (conv => whnf); refine SCond.n (by exact rfl) ?_; (conv => whnf); refine SCond.n (by exact rfl) ?_; (conv => whnf); refine SCond.n (by exact rfl) ?_; (conv => whnf); refine SCond.n (by exact rfl) ?_; (conv => whnf); refine SCond.n (by exact rfl) ?_
      (conv => whnf); refine SCond.n (by exact rfl) ?_; (conv => whnf); refine SCond.n (by exact rfl) ?_; (conv => whnf); refine SCond.n (by exact rfl) ?_; (conv => whnf); refine SCond.n (by exact rfl) ?_; (conv => whnf); refine SCond.n (by exact rfl) ?_; (conv => whnf); refine SCond.n (by assumption) ?_; (conv => whnf); refine SPick.n (by exact rfl) ?_; (conv => whnf)
      refine SPick.n (by assumption) ?_; (conv => whnf); refine SIf.n Ty.mixed (by exact rfl) ?_; (conv => whnf); refine ⟨_, IntWalk.i64_in _ (by omega), ?_⟩; (conv => whnf)
      exact ⟨0 + 1, by omega, by repeat (first | exact trivial | refine ⟨by first | trivial | exact Weak.refl _ | exact Weak.tok _ _ _ | exact Weak.of_eq (congrArg (AV.int _) (by omega)) | exact Weak.of_eq (congrArg AV.bool (by fail)) | exact Weak.nils _ _ (.inr rfl), ?_⟩), BSub.none _, by omega⟩
    · have d3 : decide ((0 : Int) < (i : Int)) = true := decide_eq_true (by omega)
      obtain ⟨pv, gp, d4⟩ := hprev h0
      refine ⟨_, ⟨by first | omega | (simp only [List.length_cons, List.length_append, List.length_nil, List.length_map, length_aBytes, List.length_replicate, List.length_range]; omega) | fail, by first | exact get_map ga | exact get_map gp | fail⟩, ?_⟩
      (conv => whnf); refine SCall.p (by exact hp) ?_; (conv => whnf); refine SReg.d [0, 1, 2, 3, 4, 5, 6, 7, 8, 9, 10, 11, 12, 13, 14, 15, 16, 17, 18, 19, 20, 21, 22, 23, 24, 25, 26, 27, 28, 29, 30, 31, 32, 33, 34, 35, 36, 37, 38] [0, 0, 0, 0, 0, 0, 0, 0, 0, 0, 0, 0, 0, 0, 0, 0, 0, 0, 0, 0, 0, 0, 0, 0, 0, 0, 0, 0, 0, 0, 0, 0, 0, 0, 0, 0, 0, 0, 0] (by decide +kernel) ?_; (conv => whnf); (conv => whnf); refine SCond.n (by exact rfl) ?_; (conv => whnf); refine SCond.n (by exact rfl) ?_; (conv => whnf); refine SPick.n (by exact rfl) ?_; (conv => whnf); refine SCond.n (by exact rfl) ?_; (conv => whnf)
      refine SCond.n (by exact rfl) ?_; (conv => whnf); refine SCond.n (by exact rfl) ?_; (conv => whnf); refine SCond.n (by exact rfl) ?_; (conv => whnf); refine SPick.n (by exact rfl) ?_; (conv => whnf); refine SCond.n (by assumption) ?_; (conv => whnf); refine SCond.n (by assumption) ?_; (conv => whnf); refine SCond.n (by assumption) ?_; (conv => whnf)
      refine ⟨_, ⟨by first | omega | (simp only [List.length_cons, List.length_append, List.length_nil, List.length_map, length_aBytes, List.length_replicate, List.length_range]; omega) | fail, by first | exact get_map ga | exact get_map gp | fail⟩, ?_⟩
      (conv => whnf); refine SCond.n (by assumption) ?_; (conv => whnf); refine SCond.n (by assumption) ?_; (conv => whnf); refine SCond.n (by assumption) ?_; (conv => whnf); refine SCond.n (by assumption) ?_; (conv => whnf); refine SPick.n (by assumption) ?_; (conv => whnf); refine SCond.n (by assumption) ?_; (conv => whnf); refine SCond.n (by assumption) ?_; (conv => whnf)
      refine SCond.n (by assumption) ?_; (conv => whnf); refine SCond.y (by assumption) ?_; (conv => whnf); refine SCond.y (by assumption) ?_; (conv => whnf); refine SCond.y (by assumption) ?_; (conv => whnf)
      refine ⟨_, ⟨by first | omega | (simp only [List.length_cons, List.length_append, List.length_nil, List.length_map, length_aBytes, List.length_replicate, List.length_range]; omega) | fail, by first | exact get_map ga | exact get_map gp | fail⟩, ?_⟩
      (conv => whnf); refine SCond.y (by assumption) ?_; (conv => whnf); refine SCond.y (by assumption) ?_; (conv => whnf); refine SCond.y (by assumption) ?_; (conv => whnf); refine SCond.y (by assumption) ?_; (conv => whnf); refine SCond.y (by assumption) ?_; (conv => whnf); refine ⟨_, IntWalk.i64_in _ (by omega), ?_⟩; (conv => whnf); refine SCond.y (by assumption) ?_; (conv => whnf)
      refine ⟨_, ⟨by first | omega | (simp only [List.length_cons, List.length_append, List.length_nil, List.length_map, length_aBytes, List.length_replicate, List.length_range]; omega) | fail, by first | exact get_map ga | exact get_map gp | fail⟩, ?_⟩
      (conv => whnf); refine SCond.y (by assumption) ?_; (conv => whnf); refine SCond.y (by assumption) ?_; (conv => whnf); refine SCond.y (by assumption) ?_; (conv => whnf); refine SCond.n (by assumption) ?_; (conv => whnf); refine SPick.y (by assumption) ?_; (conv => whnf); refine SPick.n (by assumption) ?_; (conv => whnf); refine SIf.n Ty.mixed (by assumption) ?_; (conv => whnf)
      refine ⟨_, IntWalk.i64_in _ (by omega), ?_⟩; (conv => whnf)
      exact ⟨i + 1, by omega, by repeat (first | exact trivial | refine ⟨by first | trivial | exact Weak.refl _ | exact Weak.tok _ _ _ | exact Weak.of_eq (congrArg (AV.int _) (by omega)) | exact Weak.of_eq (congrArg AV.bool (by fail)) | exact Weak.nils _ _ (.inr rfl), ?_⟩), BSub.none _, by omega⟩
  · have hge : i = l.length := by simp at hc; omega
    refine SCall.p (by exact known2_any w0 hL) ?_; (conv => whnf); refine SCond.y (by exact rfl) ?_; (conv => whnf); refine SCond.y (by exact rfl) ?_; (conv => whnf); refine SCond.y (by exact rfl) ?_; (conv => whnf); refine SCond.y (by exact rfl) ?_; (conv => whnf); refine SCond.y (by exact rfl) ?_; (conv => whnf); refine SCond.y (by exact rfl) ?_; (conv => whnf)
    refine ⟨_, IntWalk.i64_in _ (by simp only [List.length_cons, List.length_append, List.length_nil, List.length_map, length_aBytes, List.length_replicate, List.length_range]; omega), ?_⟩; (conv => whnf); refine SCond.y (by exact rfl) ?_; (conv => whnf); refine SPick.y (by exact rfl) ?_; (conv => whnf); exact .w (by rw [d5])
end Go.Proofs.YtkbmkhhcppfcnaaDoor
end
section
set_option linter.unusedVariables false
set_option linter.unusedSimpArgs false
set_option maxRecDepth 100000
set_option maxHeartbeats 1000000
namespace Go.Proofs.YtkbmkhhcppfcnaaDoor
open Go.Al Go.RowKit
theorem enc_acks (x : Sub) (h : x.acks ≠ []) : enc3 x = [⟨rkey 3 97 x.id 0, acksB x⟩] ++ x.queue.map (msgRow x.id) ++ [⟨rkey 3 115 x.id 0, subB x⟩] := by rw [enc3, if_neg h]
theorem encR_room (w0 : World) (hL : Laid w0) (x : Sub) (hx : Fits x) (σ : St) : CallW Tryd.prog w0 17 [eSub x] σ (fun r s => ∃ tk', r = .slc 2 ((enc3 x).map eRow) tk' ∧ Moves σ .full s tk') := by
  refine CallW.start Tryd.func17 rfl Tryd.ntmps17 (by simp) fun Q hQ => ?_
  refine W.seq ?_; refine W.regionL (by decide +kernel) rfl ?_; apply r_boxF; exact rfl; exact rfl; exact rfl; (conv => (lhs; whnf)); exact rfl; apply r_op; exact rfl; exact rfl; apply a_assign; (conv => (lhs; whnf)); (with_reducible refine runs_done ?_); refine W.seq ?_; refine W.regionL (by decide +kernel) rfl ?_; apply r_op; exact rfl; exact rfl; apply a_assign; (conv => (lhs; whnf))
  (with_reducible refine runs_done ?_); refine W.seq ?_; refine W.seq ?_; refine W.regionL (by decide +kernel) rfl ?_; apply r_op; exact rfl; exact rfl; apply g_fieldAddr; exact a_fieldAddr1 rfl (by decide) rfl; apply r_op; exact rfl; exact rfl; apply g_load; exact a_load1 rfl rfl; apply r_op; exact rfl; exact rfl; apply g_call; exact a_len_slc rfl; apply r_op; exact rfl; exact rfl; apply g_binOp
  exact a_binI rfl rfl rfl; (with_reducible refine runs_done ?_)
  refine W.meet (fun E s => ∃ tk, Moves σ .full s tk ∧ Has [(1, .vp (eSub x)), (3, .slc 2 ((preR x).map eRow) tk)] E) ?_ ?_
  · refine W.cond rfl (fun hc => ?_) (fun hc => ?_)
    · have hne : x.acks ≠ [] := by rintro e; simp [e] at hc
      refine W.regionDK 0 [40, 41, 42] Ty.mixed (by decide +kernel) (by decide +kernel) rfl ?_; apply r_op; exact rfl; exact rfl; apply a_move; (conv => (lhs; whnf)); apply r_op; exact rfl; exact rfl; apply g_fieldAddr; exact a_fieldAddr1 rfl (by decide) rfl; apply r_op; exact rfl; exact rfl; apply g_load; exact a_load1 rfl rfl
      apply r_op; exact rfl; exact rfl; apply g_load; exact a_loadA rfl (by rfl) rfl; apply r_callM; exact rfl; exact rfl; decide; exact rfl; exact rfl; exact rfl; infer_instance; exact refacks_room w0 x hx _; intro tk1 σ1 hm; apply r_callP; exact rfl; exact rfl; exact rfl; exact rfl; exact rfl; infer_instance; exact rowR_any w0 hL 97 _ _ _ _; apply r_op; exact rfl; exact rfl; apply g_buildSlice
      apply a_build1; (conv => (lhs; whnf)); exact rfl; exact rfl; decide; apply r_append; exact rfl; exact rfl; decide; infer_instance; exact rfl; exact rfl; exact rfl; exact rfl; exact rfl; exact .inl rfl
      simp only [length_aBytes, List.length_append, List.length_cons, List.length_nil, List.length_map, List.length_range]
      omega; intro tk1 σ1 hm; apply r_op; exact rfl; exact rfl; apply a_assign; (conv => (lhs; whnf)); (with_reducible refine runs_done ?_)
      rw [preR, if_neg hne]
      exact ⟨tk1, (‹Moves σ _ _ _›).then hm, by exact Has.by (by repeat (first | exact trivial | refine ⟨by first | trivial | exact Weak.refl _ | exact Weak.tok _ _ _ | exact Weak.of_eq (congrArg (AV.int _) (by omega)) | exact Weak.nils _ _ (.inr rfl), ?_⟩))⟩
    · have hne : x.acks = [] := by simpa using hc
      refine W.skip ?_
      rw [preR, if_pos hne]
      exact ⟨.full, .full σ, by exact Has.by (by repeat (first | exact trivial | refine ⟨by first | trivial | exact Weak.refl _ | exact Weak.tok _ _ _ | exact Weak.of_eq (congrArg (AV.int _) (by omega)) | exact Weak.nils _ _ (.inr rfl), ?_⟩))⟩
  · rintro E s ⟨tk, hm, hE⟩
    refine W.has hE ?_; clear hE; refine W.seq ?_; refine W.seq ?_; refine W.regionL (by decide +kernel) rfl ?_; apply r_op; exact rfl; exact rfl; apply a_assign; (conv => (lhs; whnf)); (with_reducible refine runs_done ?_); refine W.block ?_
    refine W.loop (fun k E s => ∃ (i : Nat) (tk : Tok), i ≤ x.queue.length ∧ k = x.queue.length - i ∧ Moves σ .full s tk ∧ Has [(1, .vp (eSub x)), (3, .slc 2 ((preR x ++ (x.queue.take i).map (msgRow x.id)).map eRow) tk), (4, .int .i64 i)] E) x.queue.length ⟨0, tk, Nat.zero_le _, rfl, hm, ?_⟩ ?_
    · rw [List.take_zero, List.map_nil, List.append_nil]
      exact Has.by (by repeat (first | exact trivial | refine ⟨by first | trivial | exact Weak.refl _ | exact Weak.tok _ _ _ | exact Weak.of_eq (congrArg (AV.int _) (by omega)) | exact Weak.nils _ _ (.inr rfl), ?_⟩))
    · rintro k E s ⟨i, tk, hi, rfl, hm, hE⟩
      refine W.has hE ?_; clear hE
      have hp := preR_len x
      have hnq := hx.nqueue
      have htk := List.length_take_le i x.queue
      refine W.seq ?_; refine W.seq ?_; refine W.regionL (by decide +kernel) rfl ?_; apply r_op; exact rfl; exact rfl; apply a_move; (conv => (lhs; whnf)); apply r_op; exact rfl; exact rfl; apply g_fieldAddr; exact a_fieldAddr1 rfl (by decide) rfl; apply r_op; exact rfl; exact rfl; apply g_load; exact a_load1 rfl rfl; apply r_op; exact rfl; exact rfl; apply g_call; exact a_len_slc rfl; apply r_op
      exact rfl; exact rfl; apply g_binOp; exact a_binI rfl rfl rfl; (with_reducible refine runs_done ?_); refine W.cond rfl (fun hc => ?_) (fun hc => ?_)
      · have hlt : i < x.queue.length := by simp at hc; omega
        have ga : x.queue[i]? = some x.queue[i] := by simp [hlt]
        have hd := map_take_snoc (msgRow x.id) ga
        obtain ⟨hb1, hb2⟩ := hx.queue _ (List.mem_of_getElem? ga)
        generalize x.queue[i] = m at ga hd hb1 hb2
        refine W.skip ?_; show W _ _ _ _ _ _ _; refine W.seq ?_; refine W.block ?_; refine W.seq ?_; refine W.regionL (by decide +kernel) rfl ?_; apply r_op; exact rfl; exact rfl; apply g_fieldAddr; exact a_fieldAddr1 rfl (by decide) rfl; apply r_op; exact rfl; exact rfl; apply g_load; exact a_load1 rfl rfl; apply r_op; exact rfl; exact rfl; apply a_move; (conv => (lhs; whnf)); apply r_op
        exact rfl; exact rfl; apply g_indexAddr; exact a_indexAddr rfl rfl (by decide) (by omega) (by exact get_map (by assumption)); apply r_op; exact rfl; exact rfl; apply g_load; exact a_loadA rfl (by rfl) rfl; apply r_alloc; exact rfl; exact rfl; decide; exact rfl; (conv => (lhs; whnf)); intro b1 hb1; apply r_store; exact rfl; exact rfl; exact rfl; decide; infer_instance; exact rfl
        exact setBox_same; (conv => (lhs; whnf)); exact rfl; (conv => (lhs; whnf)); exact rfl; exact of_decide_eq_true rfl; exact setL_whole rfl; (with_reducible refine runs_done ?_); refine W.freeze1 5 (eMsg m) (by assumption) rfl rfl rfl ?_
        refine W.regionDP [0, 1, 2, 3, 4, 5, 6, 8, 9, 11, 12, 14, 15, 17, 18, 20, 7, 10, 13, 16, 19, 21, 22, 23, 24, 25, 26] 0 [40, 41, 42] Ty.mixed (by decide +kernel) (by decide +kernel) rfl rfl ?_; apply r_op; exact rfl; exact rfl; apply a_move; (conv => (lhs; whnf)); apply r_op; exact rfl; exact rfl; apply g_fieldAddr
        exact a_fieldAddr1 rfl (by decide) rfl; apply r_op; exact rfl; exact rfl; apply g_load; exact a_load1 rfl rfl; apply r_op; exact rfl; exact rfl; apply g_fieldAddr; exact a_fieldAddr1 rfl (by decide) rfl; apply r_op; exact rfl; exact rfl; apply g_load; exact a_load1 rfl rfl; apply r_op; exact rfl; exact rfl; apply g_fieldAddr; exact a_fieldAddr1 rfl (by decide) rfl; apply r_op; exact rfl
        exact rfl; apply g_load; exact a_load1 rfl rfl; apply r_op; exact rfl; exact rfl; apply g_fieldAddr; exact a_fieldAddr1 rfl (by decide) rfl; apply r_op; exact rfl; exact rfl; apply g_load; exact a_load1 rfl rfl; apply r_op; exact rfl; exact rfl; apply g_fieldAddr; exact a_fieldAddr1 rfl (by decide) rfl; apply r_op; exact rfl; exact rfl; apply g_load; exact a_load1 rfl rfl; apply r_op
        exact rfl; exact rfl; apply g_fieldAddr; exact a_fieldAddr1 rfl (by decide) rfl; apply r_op; exact rfl; exact rfl; apply g_load; exact a_load1 rfl rfl; apply r_op; exact rfl; exact rfl; apply g_fieldAddr; exact a_fieldAddr1 rfl (by decide) rfl; apply r_op; exact rfl; exact rfl; apply g_load; exact a_load1 rfl rfl; apply r_op; exact rfl; exact rfl; apply g_load
        exact a_loadA rfl (by rfl) rfl; apply r_callM; exact rfl; exact rfl; decide; exact rfl; exact rfl; exact rfl; infer_instance; exact reftext_nil w0 _ (by assumption); intro tk1 σ1 hm; apply r_callM; exact rfl; exact rfl; decide; exact rfl; exact rfl; exact rfl; infer_instance
        exact reftext_ch w0 _ (by assumption) (by assumption) (by exact Nat.le_trans (by exact bd_txt (by assumption)) (by omega)); intro tk1 σ1 hm; apply r_callM; exact rfl; exact rfl; decide; exact rfl; exact rfl; exact rfl; infer_instance; exact refnum_ch w0 _ (by assumption) (by exact Nat.le_trans (by apply bd_app; exact bd_txt (by assumption); exact bd_txt (by assumption)) (by omega))
        intro tk1 σ1 hm; apply r_callM; exact rfl; exact rfl; decide; exact rfl; exact rfl; exact rfl; infer_instance; exact refnum_ch w0 _ (by assumption) (by exact Nat.le_trans (by apply bd_app; apply bd_app; exact bd_txt (by assumption); exact bd_txt (by assumption); exact bd_num _) (by omega)); intro tk1 σ1 hm; apply r_callM; exact rfl; exact rfl; decide; exact rfl; exact rfl; exact rfl
        infer_instance; exact refnum_ch w0 _ (by assumption) (by exact Nat.le_trans (by apply bd_app; apply bd_app; apply bd_app; exact bd_txt (by assumption); exact bd_txt (by assumption); exact bd_num _; exact bd_num _) (by omega)); intro tk1 σ1 hm; apply r_callP; exact rfl; exact rfl; exact rfl; exact rfl; exact rfl; infer_instance; exact deathR_any w0 _; apply r_callM; exact rfl; exact rfl
        decide; exact rfl; exact rfl; exact rfl; infer_instance; exact refnum_ch w0 _ (by assumption) (by exact Nat.le_trans (by apply bd_app; apply bd_app; apply bd_app; apply bd_app; exact bd_txt (by assumption); exact bd_txt (by assumption); exact bd_num _; exact bd_num _; exact bd_num _) (by omega)); intro tk1 σ1 hm; apply r_callP; exact rfl; exact rfl; exact rfl; exact rfl; exact rfl
        infer_instance; exact rowR_any w0 hL 113 _ _ _ _; apply r_op; exact rfl; exact rfl; apply g_buildSlice; apply a_build1; (conv => (lhs; whnf)); exact rfl; exact rfl; decide; apply r_append'; exact rfl; exact rfl; decide; infer_instance; exact rfl; exact rfl; exact rfl; exact rfl; exact rfl; exact Moves.more (by assumption) (by assumption)
        simp only [length_aBytes, List.length_append, List.length_cons, List.length_nil, List.length_map, List.length_range]
        omega; intro tk1 σ1 hm; apply r_op; exact rfl; exact rfl; apply a_assign; (conv => (lhs; whnf)); refine runs_done ?_; show W _ _ _ _ _ _ _; refine W.regionL (by decide +kernel) rfl ?_; apply r_op; exact rfl; exact rfl; apply a_move; (conv => (lhs; whnf)); apply r_op; exact rfl; exact rfl; apply g_binOp; exact a_add64 rfl rfl (by omega); apply r_op; exact rfl; exact rfl; apply a_assign
        (conv => (lhs; whnf)); (with_reducible refine runs_done ?_)
        refine ⟨x.queue.length - (i + 1), by omega, i + 1, tk1, by omega, rfl, hm, ?_⟩
        rw [hd, ← List.append_assoc, List.map_append (l₂ := [msgRow x.id m])]
        exact Has.by (by repeat (first | exact trivial | refine ⟨by first | trivial | exact Weak.refl _ | exact Weak.tok _ _ _ | exact Weak.of_eq (congrArg (AV.int _) (by omega)) | exact Weak.nils _ _ (.inr rfl), ?_⟩))
      · have hge : i = x.queue.length := by simp at hc; omega
        rw [hge, List.take_length]
        obtain ⟨hs1, hs2, hs3, hs4⟩ := And.intro hx.name (And.intro hx.topic (And.intro hx.want hx.note))
        refine W.exit ?_; show W _ _ _ _ _ _ _; refine W.seq ?_; refine W.regionDP [0, 1, 3, 4, 6, 7, 9, 10, 12, 13, 15, 16, 2, 5, 8, 11, 14, 17, 18] 0 [40, 41, 42] Ty.mixed (by decide +kernel) (by decide +kernel) rfl rfl ?_; apply r_op; exact rfl; exact rfl; apply g_fieldAddr; exact a_fieldAddr1 rfl (by decide) rfl; apply r_op
        exact rfl; exact rfl; apply g_load; exact a_load1 rfl rfl; apply r_op; exact rfl; exact rfl; apply g_fieldAddr; exact a_fieldAddr1 rfl (by decide) rfl; apply r_op; exact rfl; exact rfl; apply g_load; exact a_load1 rfl rfl; apply r_op; exact rfl; exact rfl; apply g_fieldAddr; exact a_fieldAddr1 rfl (by decide) rfl; apply r_op; exact rfl; exact rfl; apply g_load; exact a_load1 rfl rfl
        apply r_op; exact rfl; exact rfl; apply g_fieldAddr; exact a_fieldAddr1 rfl (by decide) rfl; apply r_op; exact rfl; exact rfl; apply g_load; exact a_load1 rfl rfl; apply r_op; exact rfl; exact rfl; apply g_fieldAddr; exact a_fieldAddr1 rfl (by decide) rfl; apply r_op; exact rfl; exact rfl; apply g_load; exact a_load1 rfl rfl; apply r_op; exact rfl; exact rfl; apply g_fieldAddr
        exact a_fieldAddr1 rfl (by decide) rfl; apply r_op; exact rfl; exact rfl; apply g_load; exact a_load1 rfl rfl; apply r_callM; exact rfl; exact rfl; decide; exact rfl; exact rfl; exact rfl; infer_instance; exact reftext_nil w0 _ (by assumption); intro tk1 σ1 hm; apply r_callM; exact rfl; exact rfl; decide; exact rfl; exact rfl; exact rfl; infer_instance
        exact reftext_ch w0 _ (by assumption) (by assumption) (by exact Nat.le_trans (by exact bd_txt (by assumption)) (by omega)); intro tk1 σ1 hm; apply r_callM; exact rfl; exact rfl; decide; exact rfl; exact rfl; exact rfl; infer_instance
        exact reftext_ch w0 _ (by assumption) (by assumption) (by exact Nat.le_trans (by apply bd_app; exact bd_txt (by assumption); exact bd_txt (by assumption)) (by omega)); intro tk1 σ1 hm; apply r_callM; exact rfl; exact rfl; decide; exact rfl; exact rfl; exact rfl; infer_instance
        exact refnum_ch w0 _ (by assumption) (by exact Nat.le_trans (by apply bd_app; apply bd_app; exact bd_txt (by assumption); exact bd_txt (by assumption); exact bd_txt (by assumption)) (by omega)); intro tk1 σ1 hm; apply r_callM; exact rfl; exact rfl; decide; exact rfl; exact rfl; exact rfl; infer_instance
        exact refnum_ch w0 _ (by assumption) (by exact Nat.le_trans (by apply bd_app; apply bd_app; apply bd_app; exact bd_txt (by assumption); exact bd_txt (by assumption); exact bd_txt (by assumption); exact bd_num _) (by omega)); intro tk1 σ1 hm; apply r_callM; exact rfl; exact rfl; decide; exact rfl; exact rfl; exact rfl; infer_instance
        exact refnum_ch w0 _ (by assumption) (by exact Nat.le_trans (by apply bd_app; apply bd_app; apply bd_app; apply bd_app; exact bd_txt (by assumption); exact bd_txt (by assumption); exact bd_txt (by assumption); exact bd_num _; exact bd_num _) (by omega)); intro tk1 σ1 hm; apply r_op; exact rfl; exact rfl; apply a_assign; (conv => (lhs; whnf)); refine runs_done ?_; show W _ _ _ _ _ _ _
        refine W.seq ?_; refine W.regionDK 0 [40, 41, 42] Ty.mixed (by decide +kernel) (by decide +kernel) rfl ?_; apply r_op; exact rfl; exact rfl; apply a_move; (conv => (lhs; whnf)); apply r_op; exact rfl; exact rfl; apply g_fieldAddr; exact a_fieldAddr1 rfl (by decide) rfl; apply r_op; exact rfl; exact rfl; apply g_load
        exact a_load1 rfl rfl; apply r_op; exact rfl; exact rfl; apply a_move; (conv => (lhs; whnf)); apply r_op; exact rfl; exact rfl; apply g_fieldAddr; exact a_fieldAddr1 rfl (by decide) rfl; apply r_op; exact rfl; exact rfl; apply g_load; exact a_load1 rfl rfl; apply r_callM; exact rfl; exact rfl; decide; exact rfl; exact rfl; exact rfl; infer_instance
        exact reftext_ch w0 _ (by assumption) (by assumption) (by exact Nat.le_trans (by apply bd_app; apply bd_app; apply bd_app; apply bd_app; apply bd_app; exact bd_txt (by assumption); exact bd_txt (by assumption); exact bd_txt (by assumption); exact bd_num _; exact bd_num _; exact bd_num _) (by omega)); intro tk1 σ1 hm; apply r_callP; exact rfl; exact rfl; exact rfl; exact rfl; exact rfl
        infer_instance; exact rowR_any w0 hL 115 _ _ _ _; apply r_op; exact rfl; exact rfl; apply g_buildSlice; apply a_build1; (conv => (lhs; whnf)); exact rfl; exact rfl; decide; apply r_append'; exact rfl; exact rfl; decide; infer_instance; exact rfl; exact rfl; exact rfl; exact rfl; exact rfl; exact Moves.more (by assumption) (by assumption)
        simp only [length_aBytes, List.length_append, List.length_cons, List.length_nil, List.length_map, List.length_range]
        omega; intro tk1 σ1 hm; apply r_op; exact rfl; exact rfl; apply a_assign; (conv => (lhs; whnf)); (with_reducible refine runs_done ?_); refine W.seq ?_; refine W.regionL (by decide +kernel) rfl ?_; apply r_op; exact rfl; exact rfl; apply a_move; (conv => (lhs; whnf)); apply r_op; exact rfl; exact rfl; apply a_assign; (conv => (lhs; whnf)); (with_reducible refine runs_done ?_); refine W.ret ?_
        show Q Exit.ret _ _; refine post_p hQ rfl rfl ?_
        exact ⟨tk1, by rw [enc3_eq, List.map_append (l₁ := preR x ++ x.queue.map (msgRow x.id))]; rfl, hm⟩
end Go.Proofs.YtkbmkhhcppfcnaaDoor
end
section
set_option linter.unusedVariables false
set_option linter.unusedSimpArgs false
set_option maxRecDepth 100000
set_option maxHeartbeats 2000000
namespace Go.Proofs.YtkbmkhhcppfcnaaDoor
open Go.Al Go.RowKit
def z27 : List AV := [.int .i64 0, .str [], .str [], .str [], .int .i64 0, .int .i64 0, .int .i64 0, .nils, .nils, .str []]
def x27 : List AV := [.int .i64 1, .str [110], .str [35], .str [], .int .i64 1, .int .i64 1, .int .i64 0, .nils, .nils, .str []]
theorem dec_known (w0 : World) (hL : Laid w0) : CallP Tryd.prog w0 18 [.slc 2 [eRow row0] .no] (.tup [xA, .int .u16 0]) := by
  refine CallP.start Tryd.func18 rfl Tryd.ntmps18 (by simp) fun σ Q hQ => ?_
  have hp := parts_key w0 hL 3 (by decide) 115 (by decide) 1 0 (by decide) (by decide)
  have hen := enc_xA w0 hL
  have heq := eqRows_any w0 [row0] [row0] .no .no (by decide)
  rw [show decide ([row0] = [row0]) = true by simp] at heq
  have t1 : rText V0 0 none 30 = ([110], 2, none) := by decide +kernel
  have t2 : rText V0 2 none 30 = ([35], 4, none) := by decide +kernel
  have t3 : rText V0 4 none 30 = ([], 5, none) := by decide +kernel
  have n1 : rNum V0 5 none = (1, 6, none) := by decide +kernel
  have n2 : rNum V0 6 none = (1, 7, none) := by decide +kernel
  have n3 : rNum V0 7 none = (0, 8, none) := by decide +kernel
  have t4 : rText V0 8 none 30 = ([], 9, none) := by decide +kernel
  refine W.seq ?_; refine W.regionL (by decide +kernel) rfl ?_; apply r_alloc; exact rfl; exact rfl; decide; exact rfl; (conv => (lhs; whnf)); intro b1 hb1; apply r_op; exact rfl; exact rfl; apply a_assign; (conv => (lhs; whnf)); (with_reducible refine runs_done ?_); refine W.seq ?_; refine W.regionL (by decide +kernel) rfl ?_; apply r_alloc; exact rfl; exact rfl; decide; exact rfl
  (conv => (lhs; whnf)); intro b1 hb1; (with_reducible refine runs_done ?_); refine W.seq ?_; refine W.regionL (by decide +kernel) rfl ?_; apply r_op; exact rfl; exact rfl; apply a_assign; (conv => (lhs; whnf)); (with_reducible refine runs_done ?_); refine W.seq ?_; refine W.regionL (by decide +kernel) rfl ?_; apply r_op; exact rfl; exact rfl; apply a_assign; (conv => (lhs; whnf))
  (with_reducible refine runs_done ?_); refine W.seq ?_; refine W.seq ?_; refine W.regionL (by decide +kernel) rfl ?_; apply r_op; exact rfl; exact rfl; apply a_move; (conv => (lhs; whnf)); apply r_op; exact rfl; exact rfl; apply g_call; exact a_len_slc rfl; apply r_op; exact rfl; exact rfl; apply a_move; (conv => (lhs; whnf)); (with_reducible refine runs_done ?_); refine W.block ?_
  rename_i b2 hb2
  have hne : b2 ≠ b1 := ne_none' hb1
  have hs4 : σ.box b1 = none := none_in hb1
  generalize b1 = b4 at hne hs4 hb1 ⊢
  refine W.loop (fun k E s => (k = 1 ∧ s = (σ.setBox b2 z27).setBox b4 z27 ∧ Has [(0, .slc 2 [eRow row0] .no), (2, .ptr b2 0), (3, .int .u16 0), (4, .ptr b4 0), (5, .nils), (6, .bool true), (20, .slc 2 [eRow row0] .no), (21, .int .i64 1), (22, .int .i64 0)] E) ∨ (k = 0 ∧ s.box b2 = some z27 ∧ s.box b4 = some x27 ∧ St.Le σ s ∧ Has [(0, .slc 2 [eRow row0] .no), (2, .ptr b2 0), (3, .int .u16 0), (4, .ptr b4 0), (5, .nils), (6, .bool true), (20, .slc 2 [eRow row0] .no), (21, .int .i64 1), (22, .int .i64 1)] E)) 1 (.inl ⟨rfl, rfl, by exact Has.by (by repeat (first | exact trivial | refine ⟨by first | trivial | exact Weak.refl _ | exact Weak.tok _ _ _ | exact Weak.of_eq (congrArg (AV.int _) (by omega)) | exact Weak.nils _ _ (.inr rfl), ?_⟩))⟩) ?_
  rintro k E s (⟨rfl, rfl, hE⟩ | ⟨rfl, h2, h4, hle, hE⟩)
  · refine W.has hE ?_
    clear hE
    unfold z27
    refine W.seq ?_; refine W.regionL (by decide +kernel) rfl ?_; apply r_op; exact rfl; exact rfl; apply g_binOp; exact a_binI rfl rfl rfl; (with_reducible refine runs_done ?_); refine W.seq ?_; refine W.condT rfl (by exact rfl) ?_; refine W.skip ?_; show W _ _ _ _ _ _ _; refine W.seq ?_; refine W.block ?_; refine W.seq ?_; refine W.regionL (by decide +kernel) rfl ?_; apply r_op; exact rfl
    exact rfl; apply a_move; (conv => (lhs; whnf)); apply r_op; exact rfl; exact rfl; apply g_indexAddr; exact a_indexAddr rfl rfl (by decide) (by omega) (by exact rfl); apply r_op; exact rfl; exact rfl; apply g_load; exact a_loadA rfl (by rfl) rfl; apply r_alloc; exact rfl; exact rfl; decide; exact rfl; (conv => (lhs; whnf)); intro b1 hb1; apply r_op; exact rfl; exact rfl; apply a_assign
    (conv => (lhs; whnf)); apply r_store; exact rfl; exact rfl; exact rfl; decide; infer_instance; exact rfl; exact setBox_same; (conv => (lhs; whnf)); exact rfl; (conv => (lhs; whnf)); exact rfl; exact of_decide_eq_true rfl; exact setL_whole rfl; (with_reducible refine runs_done ?_); refine W.seq ?_; refine W.regionL (by decide +kernel) rfl ?_; apply r_op; exact rfl; exact rfl; apply g_fieldAddr
    exact a_fieldAddrP rfl (by decide); apply r_load; exact rfl; exact rfl; exact rfl; decide; exact rfl; exact setBox_same; exact aLoad1 rfl; apply r_callP; exact rfl; exact rfl; exact rfl; exact rfl; exact rfl; infer_instance; exact hp; apply r_op; exact rfl; exact rfl; apply a_move; (conv => (lhs; whnf)); apply r_op; exact rfl; exact rfl; apply g_extract; exact a_extract rfl rfl; apply r_op
    exact rfl; exact rfl; apply g_extract; exact a_extract rfl rfl; apply r_op; exact rfl; exact rfl; apply g_extract; exact a_extract rfl rfl; apply r_op; exact rfl; exact rfl; apply g_extract; exact a_extract rfl rfl; apply r_op; exact rfl; exact rfl; apply g_extract; exact a_extract rfl rfl; apply r_op; exact rfl; exact rfl; apply a_assign; (conv => (lhs; whnf)); apply r_op; exact rfl; exact rfl
    apply a_assign; (conv => (lhs; whnf)); apply r_op; exact rfl; exact rfl; apply a_assign; (conv => (lhs; whnf)); apply r_op; exact rfl; exact rfl; apply a_assign; (conv => (lhs; whnf)); apply r_op; exact rfl; exact rfl; apply a_assign; (conv => (lhs; whnf)); (with_reducible refine runs_done ?_); refine W.seq ?_; refine W.regionL (by decide +kernel) rfl ?_; apply r_op; exact rfl; exact rfl
    apply a_move; (conv => (lhs; whnf)); apply r_op; exact rfl; exact rfl; apply g_fieldAddr; exact a_fieldAddrP rfl (by decide); apply r_store; exact rfl; exact rfl; exact rfl; decide; infer_instance; exact rfl; apply hb_ne (by exact ne_none' (by assumption)); apply hb_ne (by exact ne_none' (by assumption)); exact setBox_same; (conv => (lhs; whnf)); exact rfl; (conv => (lhs; whnf)); exact rfl
    exact of_decide_eq_true rfl; exact rfl; (with_reducible refine runs_done ?_); refine W.seq ?_; refine W.regionL (by decide +kernel) rfl ?_; apply r_op; exact rfl; exact rfl; apply g_fieldAddr; exact a_fieldAddrP rfl (by decide); apply r_load; exact rfl; exact rfl; exact rfl; decide; exact rfl; apply hb_ne (by exact ne_none (by assumption)); exact setBox_same; exact aLoad1 rfl; apply r_op
    exact rfl; exact rfl; apply g_build; apply a_build; apply EvP.cons (by (conv => (lhs; whnf))); exact EvP.nil
    simp only [aFill, List.getElem?_cons_zero, List.getElem?_cons_succ, AV.cells, List.length_cons, List.length_nil, AV.flat, AV.one, setL, List.set_cons_zero, List.set_cons_succ, Nat.reduceAdd, Nat.reduceLeDiff, Nat.reduceMul, and_self, if_true, ↓reduceIte, Nat.zero_add, Nat.le_refl, List.range, List.range.loop, List.map_cons, List.map_nil, Nat.zero_le]
    rfl; apply r_op; exact rfl; exact rfl; apply g_build; apply a_build; apply EvP.cons (by (conv => (lhs; whnf))); exact EvP.nil
    simp only [aFill, List.getElem?_cons_zero, List.getElem?_cons_succ, AV.cells, List.length_cons, List.length_nil, AV.flat, AV.one, setL, List.set_cons_zero, List.set_cons_succ, Nat.reduceAdd, Nat.reduceLeDiff, Nat.reduceMul, and_self, if_true, ↓reduceIte, Nat.zero_add, Nat.le_refl, List.range, List.range.loop, List.map_cons, List.map_nil, Nat.zero_le]
    rfl; apply r_box; exact rfl; exact rfl; decide; exact rfl; (conv => (lhs; whnf)); exact rfl; (conv => (lhs; whnf)); intro b1 hb1; apply r_op; exact rfl; exact rfl; apply a_assign; (conv => (lhs; whnf)); (with_reducible refine runs_done ?_); refine W.seq ?_; refine W.seq ?_; refine W.regionL (by decide +kernel) rfl ?_; apply r_op; exact rfl; exact rfl; apply a_move; (conv => (lhs; whnf))
    (with_reducible refine runs_done ?_); refine W.block ?_; refine W.seq ?_; refine W.regionL (by decide +kernel) rfl ?_; apply r_op; exact rfl; exact rfl; apply g_binOp; exact a_binI rfl rfl rfl; apply r_op; exact rfl; exact rfl; apply a_assign; (conv => (lhs; whnf)); (with_reducible refine runs_done ?_); refine W.condF rfl (by exact rfl) ?_; refine W.seq ?_
    refine W.regionL (by decide +kernel) rfl ?_; apply r_op; exact rfl; exact rfl; apply g_binOp; exact a_binI rfl rfl rfl; apply r_op; exact rfl; exact rfl; apply a_assign; (conv => (lhs; whnf)); (with_reducible refine runs_done ?_); refine W.condF rfl (by exact rfl) ?_; refine W.seq ?_; refine W.regionL (by decide +kernel) rfl ?_; apply r_op; exact rfl; exact rfl; apply g_binOp
    exact a_binI rfl rfl rfl; apply r_op; exact rfl; exact rfl; apply a_assign; (conv => (lhs; whnf)); (with_reducible refine runs_done ?_); refine W.condT rfl (by exact rfl) ?_; refine W.seq ?_; refine W.regionL (by decide +kernel) rfl ?_; apply r_op; exact rfl; exact rfl; apply a_move; (conv => (lhs; whnf)); apply r_callS; exact rfl; exact rfl; decide; exact rfl; exact rfl; exact rfl
    infer_instance; exact rt w0 _ _ _ (by decide) t1 (by exact setBox_same); apply r_op; exact rfl; exact rfl; apply a_move; (conv => (lhs; whnf)); apply r_callS; exact rfl; exact rfl; decide; exact rfl; exact rfl; exact rfl; infer_instance; exact rt w0 _ _ _ (by decide) t2 (by exact setBox_same); apply r_op; exact rfl; exact rfl; apply a_move; (conv => (lhs; whnf)); apply r_callS; exact rfl
    exact rfl; decide; exact rfl; exact rfl; exact rfl; infer_instance; exact rt w0 _ _ _ (by decide) t3 (by exact setBox_same); apply r_op; exact rfl; exact rfl; apply g_fieldAddr; exact a_fieldAddrP rfl (by decide); apply r_store; exact rfl; exact rfl; exact rfl; decide; infer_instance; exact rfl; apply hb_ne (by exact ne_none' (by assumption)); apply hb_ne (by exact ne_none' (by assumption))
    apply hb_ne (by exact ne_none' (by assumption)); apply hb_ne (by exact ne_none' (by assumption)); exact setBox_same; (conv => (lhs; whnf)); exact rfl; (conv => (lhs; whnf)); exact rfl; exact of_decide_eq_true rfl; exact rfl; apply r_op; exact rfl; exact rfl; apply g_fieldAddr; exact a_fieldAddrP rfl (by decide); apply r_store; exact rfl; exact rfl; exact rfl; decide; infer_instance; exact rfl
    exact setBox_same; (conv => (lhs; whnf)); exact rfl; (conv => (lhs; whnf)); exact rfl; exact of_decide_eq_true rfl; exact rfl; apply r_op; exact rfl; exact rfl; apply g_fieldAddr; exact a_fieldAddrP rfl (by decide); apply r_store; exact rfl; exact rfl; exact rfl; decide; infer_instance; exact rfl; exact setBox_same; (conv => (lhs; whnf)); exact rfl; (conv => (lhs; whnf)); exact rfl
    exact of_decide_eq_true rfl; exact rfl; (with_reducible refine runs_done ?_); refine W.regionL (by decide +kernel) rfl ?_; apply r_op; exact rfl; exact rfl; apply a_move; (conv => (lhs; whnf)); apply r_callS; exact rfl; exact rfl; decide; exact rfl; exact rfl; exact rfl; infer_instance
    exact rn w0 _ _ _ (by decide) n1 (by apply hb_ne (by exact ne_none (by assumption)); apply hb_ne (by exact ne_none (by assumption)); apply hb_ne (by exact ne_none (by assumption)); exact setBox_same); apply r_op; exact rfl; exact rfl; apply a_move; (conv => (lhs; whnf)); apply r_callS; exact rfl; exact rfl; decide; exact rfl; exact rfl; exact rfl; infer_instance
    exact rn w0 _ _ _ (by decide) n2 (by exact setBox_same); apply r_op; exact rfl; exact rfl; apply a_move; (conv => (lhs; whnf)); apply r_callS; exact rfl; exact rfl; decide; exact rfl; exact rfl; exact rfl; infer_instance; exact rn w0 _ _ _ (by decide) n3 (by exact setBox_same); apply r_op; exact rfl; exact rfl; apply a_move; (conv => (lhs; whnf)); apply r_callS; exact rfl; exact rfl; decide
    exact rfl; exact rfl; exact rfl; infer_instance; exact rt w0 _ _ _ (by decide) t4 (by exact setBox_same); apply r_op; exact rfl; exact rfl; apply g_fieldAddr; exact a_fieldAddrP rfl (by decide); apply r_store; exact rfl; exact rfl; exact rfl; decide; infer_instance; exact rfl; apply hb_ne (by exact ne_none' (by assumption)); apply hb_ne (by exact ne_none' (by assumption))
    apply hb_ne (by exact ne_none' (by assumption)); apply hb_ne (by exact ne_none' (by assumption)); exact setBox_same; (conv => (lhs; whnf)); exact rfl; (conv => (lhs; whnf)); exact rfl; exact of_decide_eq_true rfl; exact rfl; apply r_op; exact rfl; exact rfl; apply g_fieldAddr; exact a_fieldAddrP rfl (by decide); apply r_store; exact rfl; exact rfl; exact rfl; decide; infer_instance; exact rfl
    exact setBox_same; (conv => (lhs; whnf)); exact rfl; (conv => (lhs; whnf)); exact rfl; exact of_decide_eq_true rfl; exact rfl; apply r_op; exact rfl; exact rfl; apply g_fieldAddr; exact a_fieldAddrP rfl (by decide); apply r_store; exact rfl; exact rfl; exact rfl; decide; infer_instance; exact rfl; exact setBox_same; (conv => (lhs; whnf)); exact rfl; (conv => (lhs; whnf)); exact rfl
    exact of_decide_eq_true rfl; exact rfl; apply r_op; exact rfl; exact rfl; apply g_fieldAddr; exact a_fieldAddrP rfl (by decide); apply r_store; exact rfl; exact rfl; exact rfl; decide; infer_instance; exact rfl; exact setBox_same; (conv => (lhs; whnf)); exact rfl; (conv => (lhs; whnf)); exact rfl; exact of_decide_eq_true rfl; exact rfl; (with_reducible refine runs_done ?_)
    refine W.regionDK 1 [45, 46, 47] Ty.mixed (by decide +kernel) (by decide +kernel) rfl ?_; apply r_op; exact rfl; exact rfl; apply a_move; (conv => (lhs; whnf)); apply r_op; exact rfl; exact rfl; apply a_move; (conv => (lhs; whnf)); apply r_op; exact rfl; exact rfl; apply a_move; (conv => (lhs; whnf)); apply r_op; exact rfl; exact rfl
    apply g_binOp; exact a_binI rfl rfl rfl; apply r_op; exact rfl; exact rfl; apply a_move; (conv => (lhs; whnf)); apply q_skip; exact rfl; exact want_f rfl rfl rfl (by exact rfl); apply q_skip; exact rfl; exact want_f rfl rfl rfl (by exact rfl); apply q_skip; exact rfl; exact want_f rfl rfl rfl (by exact rfl); apply q_skip; exact rfl; exact want_f rfl rfl rfl (by exact rfl); apply q_skip
    exact rfl; exact want_f rfl rfl rfl (by exact rfl); apply q_skip; exact rfl; exact want_f rfl rfl rfl (by exact rfl); apply q_skip; exact rfl; exact want_f rfl rfl rfl (by exact rfl); apply q_skip; exact rfl; exact want_f rfl rfl rfl (by exact rfl); apply q_skip; exact rfl; exact want_f rfl rfl rfl (by exact rfl); apply r_op; exact rfl; exact rfl; apply g_pick; apply a_pickT rfl (by exact rfl)
    (conv => (lhs; whnf)); apply r_op; exact rfl; exact rfl; apply g_pick; apply a_pickT rfl (by exact rfl); (conv => (lhs; whnf)); apply r_op; exact rfl; exact rfl; apply a_move; (conv => (lhs; whnf)); apply r_op; exact rfl; exact rfl; apply a_move; (conv => (lhs; whnf)); apply r_op; exact rfl; exact rfl; apply g_nilCheck; exact a_nilCheck rfl rfl; apply r_op; exact rfl; exact rfl
    apply g_fieldAddr; exact a_fieldAddrP rfl (by decide); apply r_load; exact rfl; exact rfl; exact rfl; decide; exact rfl; apply hb_ne (by exact ne_none (by assumption)); apply hb_ne (by exact ne_none (by assumption)); apply hb_ne (by exact ne_none (by assumption)); apply hb_ne (by exact ne_none (by assumption)); exact setBox_same; exact aLoad1 rfl; apply r_op; exact rfl; exact rfl; apply g_binOp
    exact a_nilI rfl rfl (by exact .inl rfl) rfl rfl rfl; apply r_op; exact rfl; exact rfl; apply g_pick; apply a_pickT rfl (by exact rfl); (conv => (lhs; whnf)); apply r_op; exact rfl; exact rfl; apply a_assign; (conv => (lhs; whnf)); (with_reducible refine runs_done ?_); refine W.regionL (by decide +kernel) rfl ?_; apply r_op; exact rfl; exact rfl; apply g_binOp; exact a_add64 rfl rfl (by omega)
    apply r_op; exact rfl; exact rfl; apply a_move; (conv => (lhs; whnf)); (with_reducible refine runs_done ?_)
    exact ⟨0, by decide, .inr ⟨rfl, by repeat (first | exact setBox_same | apply hb_ne (by first | assumption | exact ne_none' (by first | assumption | exact none_in (by assumption) | exact none_in (none_in (by assumption)) | exact none_in (none_in (none_in (by assumption))) | exact none_in (none_in (none_in (none_in (by assumption)))) | exact none_in (none_in (none_in (none_in (none_in (by assumption))))) | exact none_in (none_in (none_in (none_in (none_in (none_in (by assumption)))))) | exact none_in (none_in (none_in (none_in (none_in (none_in (none_in (by assumption))))))) | exact none_in (none_in (none_in (none_in (none_in (none_in (none_in (none_in (by assumption)))))))) | fail) | exact ne_none (by first | assumption | exact none_in (by assumption) | exact none_in (none_in (by assumption)) | exact none_in (none_in (none_in (by assumption))) | exact none_in (none_in (none_in (none_in (by assumption)))) | exact none_in (none_in (none_in (none_in (none_in (by assumption))))) | exact none_in (none_in (none_in (none_in (none_in (none_in (by assumption)))))) | exact none_in (none_in (none_in (none_in (none_in (none_in (none_in (by assumption))))))) | exact none_in (none_in (none_in (none_in (none_in (none_in (none_in (none_in (by assumption)))))))) | fail) | fail)), setBox_same, by repeat (first | assumption | exact .refl _ | refine le_setBox ?_ (by first | assumption | exact none_in (by assumption) | exact none_in (none_in (by assumption)) | exact none_in (none_in (none_in (by assumption))) | exact none_in (none_in (none_in (none_in (by assumption)))) | exact none_in (none_in (none_in (none_in (none_in (by assumption))))) | exact none_in (none_in (none_in (none_in (none_in (none_in (by assumption)))))) | exact none_in (none_in (none_in (none_in (none_in (none_in (none_in (by assumption))))))) | exact none_in (none_in (none_in (none_in (none_in (none_in (none_in (none_in (by assumption)))))))) | fail)), by exact Has.by (by repeat (first | exact trivial | refine ⟨by first | trivial | exact Weak.refl _ | exact Weak.tok _ _ _ | exact Weak.of_eq (congrArg (AV.int _) (by omega)) | exact Weak.nils _ _ (.inr rfl), ?_⟩))⟩⟩
  · refine W.has hE ?_
    clear hE
    unfold z27 at h2
    unfold x27 at h4
    refine W.seq ?_; refine W.regionL (by decide +kernel) rfl ?_; apply r_op; exact rfl; exact rfl; apply g_binOp; exact a_binI rfl rfl rfl; (with_reducible refine runs_done ?_); refine W.seq ?_; refine W.condF rfl (by exact rfl) ?_; refine W.exit ?_; show W _ _ _ _ _ _ _; refine W.seq ?_; refine W.regionL (by decide +kernel) rfl ?_; apply r_op; exact rfl; exact rfl; apply g_fieldAddr
    exact a_fieldAddrP rfl (by decide); apply r_load; exact rfl; exact rfl; exact rfl; decide; exact rfl; assumption; exact aLoad1 rfl; apply r_op; exact rfl; exact rfl; apply a_assign; (conv => (lhs; whnf)); (with_reducible refine runs_done ?_); refine W.seq ?_; refine W.seq ?_; refine W.regionL (by decide +kernel) rfl ?_; apply r_op; exact rfl; exact rfl; apply a_move; (conv => (lhs; whnf))
    apply r_op; exact rfl; exact rfl; apply g_call; exact a_len_nils rfl; apply r_op; exact rfl; exact rfl; apply a_move; (conv => (lhs; whnf)); (with_reducible refine runs_done ?_); refine W.block ?_
    refine W.loop (fun k E s' => k = 0 ∧ s' = s ∧ Has [(0, .slc 2 [eRow row0] .no), (2, .ptr b2 0), (3, .int .u16 0), (4, .ptr b4 0), (6, .bool true), (123, .nils), (124, .int .i64 0), (125, .int .i64 0)] E) 0 ⟨rfl, rfl, by exact Has.by (by repeat (first | exact trivial | refine ⟨by first | trivial | exact Weak.refl _ | exact Weak.tok _ _ _ | exact Weak.of_eq (congrArg (AV.int _) (by omega)) | exact Weak.nils _ _ (.inr rfl), ?_⟩))⟩ ?_
    rintro k E s' ⟨rfl, rfl, hE⟩; refine W.has hE ?_; clear hE; refine W.seq ?_; refine W.regionL (by decide +kernel) rfl ?_; apply r_op; exact rfl; exact rfl; apply g_binOp; exact a_binI rfl rfl rfl; (with_reducible refine runs_done ?_); refine W.seq ?_; refine W.condF rfl (by exact rfl) ?_; refine W.exit ?_; show W _ _ _ _ _ _ _; refine W.seq ?_; refine W.regionL (by decide +kernel) rfl ?_
    apply r_op; exact rfl; exact rfl; apply a_assign; (conv => (lhs; whnf)); (with_reducible refine runs_done ?_); refine W.seq ?_; refine W.seq ?_; refine W.regionL (by decide +kernel) rfl ?_; apply r_op; exact rfl; exact rfl; apply a_move; (conv => (lhs; whnf)); apply r_op; exact rfl; exact rfl; apply g_unOp; exact a_not rfl; apply r_op; exact rfl; exact rfl; apply a_move; (conv => (lhs; whnf))
    apply r_load; exact rfl; exact rfl; exact rfl; decide; exact rfl; assumption; exact aLoadA rfl (by rfl) rfl; apply r_callP; exact rfl; exact rfl; exact rfl; exact rfl; exact rfl; infer_instance; exact hen; apply r_op; exact rfl; exact rfl; apply a_move; (conv => (lhs; whnf)); apply r_op; exact rfl; exact rfl; apply a_move; (conv => (lhs; whnf)); apply r_callP; exact rfl; exact rfl; exact rfl
    exact rfl; exact rfl; infer_instance; exact heq; apply r_op; exact rfl; exact rfl; apply g_unOp; exact a_not rfl; apply r_op; exact rfl; exact rfl; apply g_pick; apply a_pickF rfl (by exact rfl); (conv => (lhs; whnf)); (with_reducible refine runs_done ?_); refine W.condF rfl (by exact rfl) ?_; refine W.skip ?_; show W _ _ _ _ _ _ _; refine W.seq ?_; refine W.regionL (by decide +kernel) rfl ?_
    apply r_load; exact rfl; exact rfl; exact rfl; decide; exact rfl; assumption; exact aLoadA rfl (by rfl) rfl; apply r_store; exact rfl; exact rfl; exact rfl; decide; infer_instance; exact rfl; assumption; (conv => (lhs; whnf)); exact rfl; (conv => (lhs; whnf)); exact rfl; exact of_decide_eq_true rfl; exact setL_whole rfl; apply r_op; exact rfl; exact rfl; apply a_assign; (conv => (lhs; whnf))
    (with_reducible refine runs_done ?_); refine W.ret ?_; show Q Exit.ret _ _; refine post_q hQ (by apply res_cell; exact rfl; exact setBox_same; exact aLoadA rfl (by rfl) rfl; apply res_tmp; exact rfl; exact res_nil) (.inl rfl) (by refine le_setBox ?_ (by assumption); assumption) ?_; (conv => (lhs; whnf)); rfl
end Go.Proofs.YtkbmkhhcppfcnaaDoor
end
section
set_option linter.unusedVariables false
set_option linter.unusedSimpArgs false
set_option maxRecDepth 100000
set_option maxHeartbeats 2000000
namespace Go.Proofs.YtkbmkhhcppfcnaaDoor
open Go.Al Go.RowKit
theorem dec_nil (w0 : World) (hL : Laid w0) : CallP Tryd.prog w0 18 [.nils] (.tup [zA, .int .u16 11]) := by
  refine CallP.start Tryd.func18 rfl Tryd.ntmps18 (by simp) fun σ Q hQ => ?_
  have hen := enc_zA w0 hL
  have heq : CallP Tryd.prog w0 49 [.slc 2 ((enc3 z0).map eRow) .no, .nils, .fn (.func 48) [] []] (.bool false) := fun σ => by
    have := eqRows_any w0 (enc3 z0) [] .no .no (by simp [enc3, z0])  σ
    rw [show decide (enc3 z0 = []) = false by simp [enc3]] at this
    exact CallW.weak1 [_] [_] (.nils 2 .no (.inl rfl)) this
  refine W.seq ?_; refine W.regionL (by decide +kernel) rfl ?_; apply r_alloc; exact rfl; exact rfl; decide; exact rfl; (conv => (lhs; whnf)); intro b1 hb1; apply r_op; exact rfl; exact rfl; apply a_assign; (conv => (lhs; whnf)); (with_reducible refine runs_done ?_); refine W.seq ?_; refine W.regionL (by decide +kernel) rfl ?_; apply r_alloc; exact rfl; exact rfl; decide; exact rfl
  (conv => (lhs; whnf)); intro b1 hb1; (with_reducible refine runs_done ?_); refine W.seq ?_; refine W.regionL (by decide +kernel) rfl ?_; apply r_op; exact rfl; exact rfl; apply a_assign; (conv => (lhs; whnf)); (with_reducible refine runs_done ?_); refine W.seq ?_; refine W.regionL (by decide +kernel) rfl ?_; apply r_op; exact rfl; exact rfl; apply a_assign; (conv => (lhs; whnf))
  (with_reducible refine runs_done ?_); refine W.seq ?_; refine W.seq ?_; refine W.regionL (by decide +kernel) rfl ?_; apply r_op; exact rfl; exact rfl; apply a_move; (conv => (lhs; whnf)); apply r_op; exact rfl; exact rfl; apply g_call; exact a_len_nils rfl; apply r_op; exact rfl; exact rfl; apply a_move; (conv => (lhs; whnf)); (with_reducible refine runs_done ?_); refine W.block ?_
  rename_i b2 hb2
  have hne : b2 ≠ b1 := ne_none' hb1
  have hs4 : σ.box b1 = none := none_in hb1
  generalize b1 = b4 at hne hs4 hb1 ⊢
  refine W.loop (fun k E s => k = 0 ∧ s.box b2 = some z27 ∧ s.box b4 = some z27 ∧ St.Le σ s ∧ Has [(0, .nils), (2, .ptr b2 0), (3, .int .u16 0), (4, .ptr b4 0), (5, .nils), (6, .bool true), (20, .nils), (21, .int .i64 0), (22, .int .i64 0)] E) 0 ⟨rfl, by repeat (first | exact setBox_same | apply hb_ne (by first | assumption | exact ne_none' (by first | assumption | exact none_in (by assumption) | exact none_in (none_in (by assumption)) | exact none_in (none_in (none_in (by assumption))) | exact none_in (none_in (none_in (none_in (by assumption)))) | exact none_in (none_in (none_in (none_in (none_in (by assumption))))) | exact none_in (none_in (none_in (none_in (none_in (none_in (by assumption)))))) | exact none_in (none_in (none_in (none_in (none_in (none_in (none_in (by assumption))))))) | exact none_in (none_in (none_in (none_in (none_in (none_in (none_in (none_in (by assumption)))))))) | fail) | exact ne_none (by first | assumption | exact none_in (by assumption) | exact none_in (none_in (by assumption)) | exact none_in (none_in (none_in (by assumption))) | exact none_in (none_in (none_in (none_in (by assumption)))) | exact none_in (none_in (none_in (none_in (none_in (by assumption))))) | exact none_in (none_in (none_in (none_in (none_in (none_in (by assumption)))))) | exact none_in (none_in (none_in (none_in (none_in (none_in (none_in (by assumption))))))) | exact none_in (none_in (none_in (none_in (none_in (none_in (none_in (none_in (by assumption)))))))) | fail) | fail)), setBox_same, by repeat (first | assumption | exact .refl _ | refine le_setBox ?_ (by first | assumption | exact none_in (by assumption) | exact none_in (none_in (by assumption)) | exact none_in (none_in (none_in (by assumption))) | exact none_in (none_in (none_in (none_in (by assumption)))) | exact none_in (none_in (none_in (none_in (none_in (by assumption))))) | exact none_in (none_in (none_in (none_in (none_in (none_in (by assumption)))))) | exact none_in (none_in (none_in (none_in (none_in (none_in (none_in (by assumption))))))) | exact none_in (none_in (none_in (none_in (none_in (none_in (none_in (none_in (by assumption)))))))) | fail)), by exact Has.by (by repeat (first | exact trivial | refine ⟨by first | trivial | exact Weak.refl _ | exact Weak.tok _ _ _ | exact Weak.of_eq (congrArg (AV.int _) (by omega)) | exact Weak.nils _ _ (.inr rfl), ?_⟩))⟩ ?_
  rintro k E s ⟨rfl, h2, h4, hle, hE⟩; refine W.has hE ?_; clear hE
  unfold z27 at h2 h4
  refine W.seq ?_; refine W.regionL (by decide +kernel) rfl ?_; apply r_op; exact rfl; exact rfl; apply g_binOp; exact a_binI rfl rfl rfl; (with_reducible refine runs_done ?_); refine W.seq ?_; refine W.condF rfl (by exact rfl) ?_; refine W.exit ?_; show W _ _ _ _ _ _ _; refine W.seq ?_; refine W.regionL (by decide +kernel) rfl ?_; apply r_op; exact rfl; exact rfl; apply g_fieldAddr
  exact a_fieldAddrP rfl (by decide); apply r_load; exact rfl; exact rfl; exact rfl; decide; exact rfl; assumption; exact aLoad1 rfl; apply r_op; exact rfl; exact rfl; apply a_assign; (conv => (lhs; whnf)); (with_reducible refine runs_done ?_); refine W.seq ?_; refine W.seq ?_; refine W.regionL (by decide +kernel) rfl ?_; apply r_op; exact rfl; exact rfl; apply a_move; (conv => (lhs; whnf))
  apply r_op; exact rfl; exact rfl; apply g_call; exact a_len_nils rfl; apply r_op; exact rfl; exact rfl; apply a_move; (conv => (lhs; whnf)); (with_reducible refine runs_done ?_); refine W.block ?_
  refine W.loop (fun k E s' => k = 0 ∧ s' = s ∧ Has [(0, .nils), (2, .ptr b2 0), (3, .int .u16 0), (4, .ptr b4 0), (6, .bool true), (123, .nils), (124, .int .i64 0), (125, .int .i64 0)] E) 0 ⟨rfl, rfl, by exact Has.by (by repeat (first | exact trivial | refine ⟨by first | trivial | exact Weak.refl _ | exact Weak.tok _ _ _ | exact Weak.of_eq (congrArg (AV.int _) (by omega)) | exact Weak.nils _ _ (.inr rfl), ?_⟩))⟩ ?_
  rintro k E s' ⟨rfl, rfl, hE⟩; refine W.has hE ?_; clear hE; refine W.seq ?_; refine W.regionL (by decide +kernel) rfl ?_; apply r_op; exact rfl; exact rfl; apply g_binOp; exact a_binI rfl rfl rfl; (with_reducible refine runs_done ?_); refine W.seq ?_; refine W.condF rfl (by exact rfl) ?_; refine W.exit ?_; show W _ _ _ _ _ _ _; refine W.seq ?_; refine W.regionL (by decide +kernel) rfl ?_
  apply r_op; exact rfl; exact rfl; apply a_assign; (conv => (lhs; whnf)); (with_reducible refine runs_done ?_); refine W.seq ?_; refine W.seq ?_; refine W.regionL (by decide +kernel) rfl ?_; apply r_op; exact rfl; exact rfl; apply a_move; (conv => (lhs; whnf)); apply r_op; exact rfl; exact rfl; apply g_unOp; exact a_not rfl; apply r_op; exact rfl; exact rfl; apply a_move; (conv => (lhs; whnf))
  apply r_load; exact rfl; exact rfl; exact rfl; decide; exact rfl; assumption; exact aLoadA rfl (by rfl) rfl; apply r_callP; exact rfl; exact rfl; exact rfl; exact rfl; exact rfl; infer_instance; exact hen; apply r_op; exact rfl; exact rfl; apply a_move; (conv => (lhs; whnf)); apply r_op; exact rfl; exact rfl; apply a_move; (conv => (lhs; whnf)); apply r_callP; exact rfl; exact rfl; exact rfl
  exact rfl; exact rfl; infer_instance; exact heq; apply r_op; exact rfl; exact rfl; apply g_unOp; exact a_not rfl; apply r_op; exact rfl; exact rfl; apply g_pick; apply a_pickF rfl (by exact rfl); (conv => (lhs; whnf)); (with_reducible refine runs_done ?_); refine W.condT rfl (by exact rfl) ?_; refine W.seq ?_; refine W.regionL (by decide +kernel) rfl ?_; apply r_op; exact rfl; exact rfl
  apply g_build; apply a_build; exact EvP.nil
  simp only [aFill, List.getElem?_cons_zero, List.getElem?_cons_succ, AV.cells, List.length_cons, List.length_nil, AV.flat, AV.one, setL, List.set_cons_zero, List.set_cons_succ, Nat.reduceAdd, Nat.reduceLeDiff, Nat.reduceMul, and_self, if_true, ↓reduceIte, Nat.zero_add, Nat.le_refl, List.range, List.range.loop, List.map_cons, List.map_nil, Nat.zero_le]
  rfl; apply r_store; exact rfl; exact rfl; exact rfl; decide; infer_instance; exact rfl; assumption; (conv => (lhs; whnf)); exact rfl; (conv => (lhs; whnf)); exact rfl; exact of_decide_eq_true rfl; exact setL_whole rfl; apply r_op; exact rfl; exact rfl; apply a_assign; (conv => (lhs; whnf)); (with_reducible refine runs_done ?_); refine W.ret ?_; show Q Exit.ret _ _
  refine post_q hQ (by apply res_cell; exact rfl; exact setBox_same; exact aLoadA rfl (by rfl) rfl; apply res_tmp; exact rfl; exact res_nil) (.inl rfl) (by refine le_setBox ?_ (by assumption); assumption) ?_; (conv => (lhs; whnf)); rfl
theorem known_any (w0 : World) (hL : Laid w0) : CallP Tryd.prog w0 13 [] (.bool true) := by
  refine CallP.start Tryd.func13 rfl Tryd.ntmps13 (by simp) fun σ Q hQ => ?_
  refine W.seq ?_; refine W.regionL (by decide +kernel) rfl ?_; apply r_op; exact rfl; exact rfl; apply a_assign; (conv => (lhs; whnf)); (with_reducible refine runs_done ?_); refine W.seq ?_; refine W.regionL (by decide +kernel) rfl ?_; apply r_op; exact rfl; exact rfl; apply g_build; apply a_build; apply EvP.cons (by (conv => (lhs; whnf))); apply EvP.cons (by (conv => (lhs; whnf)))
  apply EvP.cons (by (conv => (lhs; whnf))); apply EvP.cons (by (conv => (lhs; whnf))); apply EvP.cons (by (conv => (lhs; whnf))); exact EvP.nil
  simp only [aFill, List.getElem?_cons_zero, List.getElem?_cons_succ, AV.cells, List.length_cons, List.length_nil, AV.flat, AV.one, setL, List.set_cons_zero, List.set_cons_succ, Nat.reduceAdd, Nat.reduceLeDiff, Nat.reduceMul, and_self, if_true, ↓reduceIte, Nat.zero_add, Nat.le_refl, List.range, List.range.loop, List.map_cons, List.map_nil, Nat.zero_le]
  rfl; apply r_callP; exact rfl; exact rfl; exact rfl; exact rfl; exact rfl; infer_instance; exact enc_xA w0 hL; apply r_op; exact rfl; exact rfl; apply a_assign; (conv => (lhs; whnf)); (with_reducible refine runs_done ?_); refine W.seq ?_; refine W.regionL (by decide +kernel) rfl ?_; apply r_op; exact rfl; exact rfl; apply a_move; (conv => (lhs; whnf)); apply r_callP; exact rfl; exact rfl; exact rfl
  exact rfl; exact rfl; infer_instance; exact dec_known w0 hL; apply r_op; exact rfl; exact rfl; apply a_move; (conv => (lhs; whnf)); apply r_op; exact rfl; exact rfl; apply g_extract; exact a_extract rfl rfl; apply r_op; exact rfl; exact rfl; apply g_extract; exact a_extract rfl rfl; apply r_alloc; exact rfl; exact rfl; decide; exact rfl; (conv => (lhs; whnf)); intro b1 hb1; apply r_store
  exact rfl; exact rfl; exact rfl; decide; infer_instance; exact rfl; exact setBox_same; (conv => (lhs; whnf)); exact rfl; (conv => (lhs; whnf)); exact rfl; exact of_decide_eq_true rfl; exact setL_whole rfl; apply r_op; exact rfl; exact rfl; apply a_assign; (conv => (lhs; whnf)); (with_reducible refine runs_done ?_); refine W.seq ?_; refine W.regionL (by decide +kernel) rfl ?_; apply r_callP
  exact rfl; exact rfl; exact rfl; exact rfl; exact rfl; infer_instance; exact dec_nil w0 hL; apply r_op; exact rfl; exact rfl; apply a_move; (conv => (lhs; whnf)); apply r_op; exact rfl; exact rfl; apply g_extract; exact a_extract rfl rfl; apply r_op; exact rfl; exact rfl; apply g_extract; exact a_extract rfl rfl; apply r_alloc; exact rfl; exact rfl; decide; exact rfl; (conv => (lhs; whnf))
  intro b1 hb1; apply r_store; exact rfl; exact rfl; exact rfl; decide; infer_instance; exact rfl; exact setBox_same; (conv => (lhs; whnf)); exact rfl; (conv => (lhs; whnf)); exact rfl; exact of_decide_eq_true rfl; exact setL_whole rfl; apply r_op; exact rfl; exact rfl; apply a_assign; (conv => (lhs; whnf)); (with_reducible refine runs_done ?_); refine W.seq ?_
  refine W.regionL (by decide +kernel) rfl ?_; apply r_op; exact rfl; exact rfl; apply a_move; (conv => (lhs; whnf)); apply r_op; exact rfl; exact rfl; apply g_call; exact a_len_slc rfl; apply r_op; exact rfl; exact rfl; apply g_binOp; exact a_binI rfl rfl rfl; apply r_op; exact rfl; exact rfl; apply a_move; (conv => (lhs; whnf)); apply r_op; exact rfl; exact rfl; apply a_move
  (conv => (lhs; whnf)); apply r_op; exact rfl; exact rfl; apply g_binOp; exact a_binI rfl rfl rfl; apply r_op; exact rfl; exact rfl; apply g_pick; apply a_pickT rfl (by exact rfl); (conv => (lhs; whnf)); apply r_op; exact rfl; exact rfl; apply a_move; (conv => (lhs; whnf)); apply r_op; exact rfl; exact rfl; apply g_fieldAddr; exact a_fieldAddrP rfl (by decide); apply r_load; exact rfl; exact rfl
  exact rfl; decide; exact rfl; apply hb_ne (by exact ne_none' (by assumption)); apply hb_ne (by exact ne_none' (by assumption)); exact setBox_same; exact aLoad1 rfl; apply r_op; exact rfl; exact rfl; apply g_binOp; exact a_binI rfl rfl rfl; apply r_op; exact rfl; exact rfl; apply g_pick; apply a_pickT rfl (by exact rfl); (conv => (lhs; whnf)); apply r_op; exact rfl; exact rfl; apply a_move
  (conv => (lhs; whnf)); apply r_op; exact rfl; exact rfl; apply g_fieldAddr; exact a_fieldAddrP rfl (by decide); apply r_load; exact rfl; exact rfl; exact rfl; decide; exact rfl; apply hb_ne (by exact ne_none' (by assumption)); apply hb_ne (by exact ne_none' (by assumption)); exact setBox_same; exact aLoad1 rfl; apply r_op; exact rfl; exact rfl; apply g_binOp; exact a_binS rfl rfl rfl rfl
  apply r_op; exact rfl; exact rfl; apply g_pick; apply a_pickT rfl (by exact rfl); (conv => (lhs; whnf)); apply r_op; exact rfl; exact rfl; apply a_move; (conv => (lhs; whnf)); apply r_op; exact rfl; exact rfl; apply a_move; (conv => (lhs; whnf)); apply r_op; exact rfl; exact rfl; apply g_binOp; exact a_binI rfl rfl rfl; apply r_op; exact rfl; exact rfl; apply g_pick
  apply a_pickT rfl (by exact rfl); (conv => (lhs; whnf)); apply r_op; exact rfl; exact rfl; apply a_assign; (conv => (lhs; whnf)); (with_reducible refine runs_done ?_); refine W.ret ?_; show Q Exit.ret _ _
  refine post_q hQ (by apply res_tmp; exact rfl; exact res_nil) (.inl rfl) (by refine le_setBox ?_ (by exact none_in (none_in (by assumption))); refine le_setBox ?_ (by exact none_in (none_in (by assumption))); refine le_setBox ?_ (by assumption); refine le_setBox ?_ (by assumption); exact .refl _) ?_
  (conv => (lhs; whnf)); rfl
end Go.Proofs.YtkbmkhhcppfcnaaDoor
end
section
set_option linter.unusedVariables false
set_option linter.unusedSimpArgs false
set_option maxRecDepth 100000
set_option maxHeartbeats 2000000
namespace Go.Proofs.YtkbmkhhcppfcnaaDoor
open Go.Al Go.RowKit
theorem lawsub_any (w0 : World) (c : List UInt8) (t : Tok) (k : UInt8) (hc : c.length ≤ 9223372036854775807) (σ : St) : CallW Tryd.prog w0 14 [.slc 1 (aBytes c) t, .int .u8 k.toNat] σ (fun r s => ∃ x, r = eSub x ∧ Grown (1 + k.toNat) 9 (2 + k.toNat) x ∧ s = σ) := by
  refine CallW.start Tryd.func14 rfl Tryd.ntmps14 (by simp) fun Q hQ => ?_
  have hk := k.toNat_lt
  have hw : IntKind.i64.wrap (k.toNat : Int) = (k.toNat : Int) := IntWalk.i64_in _ (by omega)
  have hs : ∀ σ, CallW Tryd.prog w0 33 [.slc 1 (aBytes c) t, .int .i64 (1 + IntKind.i64.wrap (k.toNat : Int)), .int .i64 9, .int .i64 (2 + IntKind.i64.wrap (k.toNat : Int))] σ (fun r s => ∃ x, r = eSub x ∧ Grown (1 + k.toNat) 9 (2 + k.toNat) x ∧ s = σ) := fun σ => by
    rw [hw]
    exact sub_any w0 c t (1 + k.toNat) 9 (2 + k.toNat) hc (by omega) (by omega) ⟨by omega, by omega⟩ σ
  refine W.seq ?_; refine W.regionL (by decide +kernel) rfl ?_; apply r_alloc; exact rfl; exact rfl; decide; exact rfl; (conv => (lhs; whnf)); intro b1 hb1; (with_reducible refine runs_done ?_); refine W.seq ?_; refine W.regionL (by decide +kernel) rfl ?_; apply r_op; exact rfl; exact rfl; apply a_move; (conv => (lhs; whnf)); apply r_op; exact rfl; exact rfl; apply a_move; (conv => (lhs; whnf))
  apply r_op; exact rfl; exact rfl; apply g_convert; exact a_convI rfl; apply r_op; exact rfl; exact rfl; apply g_binOp; exact a_add64 rfl rfl (by omega); apply r_op; exact rfl; exact rfl; apply a_move; (conv => (lhs; whnf)); apply r_op; exact rfl; exact rfl; apply g_convert; exact a_convI rfl; apply r_op; exact rfl; exact rfl; apply g_binOp; exact a_add64 rfl rfl (by omega); apply r_callX
  exact rfl; exact rfl; decide; exact rfl; exact rfl; exact rfl; infer_instance; exact hs _; rintro x1 σ1 ⟨hx1, rfl⟩; apply r_store; exact rfl; exact rfl; exact rfl; decide; infer_instance; exact rfl; exact setBox_same; (conv => (lhs; whnf)); exact rfl; (conv => (lhs; whnf)); exact rfl; exact of_decide_eq_true rfl; exact setL_whole rfl; (with_reducible refine runs_done ?_); refine W.ret ?_
  show Q Exit.ret _ _; refine post_le (σ' := σ) hQ (by apply res_cell; exact rfl; exact setBox_same; exact aLoadA rfl (by rfl) rfl; exact res_nil) rfl (Weak.refl _) ?_ ?_ (.inl rfl); rotate_left; rotate_left
  · exact le_setBox (le_setBox (.refl _) (by assumption)) (by assumption)
  · exact ⟨x1, rfl, hx1, rfl⟩
theorem encW_p (w0 : World) (hL : Laid w0) (x : Sub) (hx : Fits x) : CallP Tryd.prog w0 16 [eSub x] (.slc 2 ((enc3 x).map eRow) .no) := fun σ => (encW_room w0 hL x hx σ).room
theorem encR_p (w0 : World) (hL : Laid w0) (x : Sub) (hx : Fits x) : CallP Tryd.prog w0 17 [eSub x] (.slc 2 ((enc3 x).map eRow) .no) := fun σ => (encR_room w0 hL x hx σ).room
theorem enc3_len (x : Sub) (hx : Fits x) : (enc3 x).length ≤ 100002 := by
  have := hx.nqueue
  have := preR_len x
  rw [enc3_eq]; simp; omega
theorem same_p (w0 : World) (x : Sub) (hx : Fits x) : CallP Tryd.prog w0 15 [.slc 2 ((enc3 x).map eRow) .no, .slc 2 ((enc3 x).map eRow) .no] (.bool true) := by
  have := sameRows_any w0 (enc3 x) (enc3 x) (by have := enc3_len x hx; omega)
  rwa [show decide (enc3 x = enc3 x) = true by simp] at this
theorem threeEncodes_any (w0 : World) (hL : Laid w0) (c : List UInt8) (t : Tok) (k : UInt8) (n : Int) (s : List UInt8) (hc : c.length ≤ 9223372036854775807) (hs : s.length ≤ 1000000000000000) (σ : St) : CallW Tryd.prog w0 3 [.slc 1 (aBytes c) t, .int .u8 k.toNat, .int .i64 n, .str s] σ (fun r _ => r = .bool true) := by
  refine CallW.start Tryd.func3 rfl Tryd.ntmps3 (by simp) fun Q hQ => ?_
  by_cases hl : 200 < s.length
  · have d : decide ((200 : Int) < (s.length : Int)) = true := decide_eq_true (by omega)
    refine W.seq ?_; refine W.regionL (by decide +kernel) rfl ?_; apply r_op; exact rfl; exact rfl; apply a_assign; (conv => (lhs; whnf)); (with_reducible refine runs_done ?_); refine W.seq ?_; refine W.seq ?_; refine W.regionL (by decide +kernel) rfl ?_; apply r_op; exact rfl; exact rfl; apply a_move; (conv => (lhs; whnf)); apply r_op; exact rfl; exact rfl; apply g_call; exact a_len_str rfl
    apply r_op; exact rfl; exact rfl; apply g_binOp; exact a_binI rfl rfl rfl; apply r_op; exact rfl; exact rfl; apply a_move; (conv => (lhs; whnf)); apply q_skip; exact rfl; exact want_f rfl rfl rfl (by assumption); apply q_skip; exact rfl; exact want_f rfl rfl rfl (by assumption); apply r_op; exact rfl; exact rfl; apply g_pick; apply a_pickT rfl (by assumption); (conv => (lhs; whnf))
    (with_reducible refine runs_done ?_); refine W.condT rfl (by exact rfl) ?_; refine W.seq ?_; refine W.regionL (by decide +kernel) rfl ?_; apply r_callP; exact rfl; exact rfl; exact rfl; exact rfl; exact rfl; infer_instance; exact known_any w0 hL; apply r_op; exact rfl; exact rfl; apply a_assign; (conv => (lhs; whnf)); (with_reducible refine runs_done ?_); refine W.ret ?_; show Q Exit.ret _ _
    refine post_p hQ rfl rfl ?_; (conv => (lhs; whnf))
  · have d : decide ((200 : Int) < (s.length : Int)) = false := decide_eq_false (by omega)
    refine W.seq ?_; refine W.regionL (by decide +kernel) rfl ?_; apply r_op; exact rfl; exact rfl; apply a_assign; (conv => (lhs; whnf)); refine runs_done ?_; show W _ _ _ _ _ _ _; refine W.seq ?_; refine W.seq ?_; refine W.regionL (by decide +kernel) rfl ?_; apply r_op; exact rfl; exact rfl; apply a_move; (conv => (lhs; whnf)); apply r_op; exact rfl; exact rfl; apply g_call; exact a_len_str rfl
    apply r_op; exact rfl; exact rfl; apply g_binOp; exact a_binI rfl rfl rfl; apply r_op; exact rfl; exact rfl; apply a_move; (conv => (lhs; whnf)); apply r_callP; exact rfl; exact rfl; exact want_t rfl rfl rfl (by assumption); exact rfl; exact rfl; infer_instance; exact known_any w0 hL; apply r_op; exact rfl; exact want_t rfl rfl rfl (by assumption); apply g_unOp; exact a_not rfl; apply r_op
    exact rfl; exact rfl; apply g_pick; apply a_pickF rfl (by assumption); (conv => (lhs; whnf)); refine runs_done ?_; show W _ _ _ _ _ _ _; refine W.condF rfl (by exact rfl) ?_; refine W.skip ?_; show W _ _ _ _ _ _ _; refine W.seq ?_; refine W.regionL (by decide +kernel) rfl ?_; apply r_op; exact rfl; exact rfl; apply a_move; (conv => (lhs; whnf)); apply r_op; exact rfl; exact rfl; apply a_move
    (conv => (lhs; whnf)); apply r_callX; exact rfl; exact rfl; decide; exact rfl; exact rfl; exact rfl; infer_instance; exact lawsub_any w0 c t k hc _; rintro x1 σ1 ⟨hx1, rfl⟩; apply r_alloc; exact rfl; exact rfl; decide; exact rfl; (conv => (lhs; whnf)); intro b1 hb1; apply r_store; exact rfl; exact rfl; exact rfl; decide; infer_instance; exact rfl; exact setBox_same; (conv => (lhs; whnf))
    exact rfl; (conv => (lhs; whnf)); exact rfl; exact of_decide_eq_true rfl; exact setL_whole rfl; refine runs_done ?_; show W _ _ _ _ _ _ _
    have hfx := (show Grown (1 + k.toNat) 9 (2 + k.toNat) x1 from hx1).fits
    have hfy : Fits { x1 with lease := n, want := s, note := s } := ⟨hfx.name, hfx.topic, by show s.length ≤ 1000; omega, by show s.length ≤ 1000; omega, hfx.nacks, hfx.nqueue, hfx.queue⟩
    refine W.seq ?_; refine W.regionL (by decide +kernel) rfl ?_; apply r_load; exact rfl; exact rfl; exact rfl; decide; exact rfl; exact setBox_same; exact aLoadA rfl (by rfl) rfl; apply r_alloc; exact rfl; exact rfl; decide; exact rfl; (conv => (lhs; whnf)); intro b1 hb1; apply r_store; exact rfl; exact rfl; exact rfl; decide; infer_instance; exact rfl; exact setBox_same; (conv => (lhs; whnf))
    exact rfl; (conv => (lhs; whnf)); exact rfl; exact of_decide_eq_true rfl; exact setL_whole rfl; (with_reducible refine runs_done ?_); refine W.seq ?_; refine W.regionL (by decide +kernel) rfl ?_; apply r_op; exact rfl; exact rfl; apply a_move; (conv => (lhs; whnf)); apply r_op; exact rfl; exact rfl; apply g_fieldAddr; exact a_fieldAddrP rfl (by decide); apply r_store; exact rfl; exact rfl
    exact rfl; decide; infer_instance; exact rfl; exact setBox_same; (conv => (lhs; whnf)); exact rfl; (conv => (lhs; whnf)); exact rfl; exact of_decide_eq_true rfl; exact rfl; (with_reducible refine runs_done ?_); refine W.seq ?_; refine W.regionL (by decide +kernel) rfl ?_; apply r_op; exact rfl; exact rfl; apply a_move; (conv => (lhs; whnf)); apply r_op; exact rfl; exact rfl; apply g_fieldAddr
    exact a_fieldAddrP rfl (by decide); apply r_store; exact rfl; exact rfl; exact rfl; decide; infer_instance; exact rfl; exact setBox_same; (conv => (lhs; whnf)); exact rfl; (conv => (lhs; whnf)); exact rfl; exact of_decide_eq_true rfl; exact rfl; (with_reducible refine runs_done ?_); refine W.seq ?_; refine W.regionL (by decide +kernel) rfl ?_; apply r_op; exact rfl; exact rfl; apply a_move
    (conv => (lhs; whnf)); apply r_op; exact rfl; exact rfl; apply g_fieldAddr; exact a_fieldAddrP rfl (by decide); apply r_store; exact rfl; exact rfl; exact rfl; decide; infer_instance; exact rfl; exact setBox_same; (conv => (lhs; whnf)); exact rfl; (conv => (lhs; whnf)); exact rfl; exact of_decide_eq_true rfl; exact rfl; (with_reducible refine runs_done ?_); refine W.seq ?_
    refine W.regionDK 1 [] Ty.mixed (by decide +kernel) (by decide +kernel) rfl ?_; apply r_load; exact rfl; exact rfl; exact rfl; decide; exact rfl; apply hb_ne (by exact ne_none' (by assumption)); apply hb_ne (by exact ne_none' (by assumption)); apply hb_ne (by exact ne_none' (by assumption)); apply hb_ne (by exact ne_none' (by assumption)); apply hb_ne (by exact ne_none' (by assumption))
    exact setBox_same; exact aLoadA rfl (by rfl) rfl; apply r_callP; exact rfl; exact rfl; exact rfl; exact rfl; exact rfl; infer_instance; exact encW_p w0 hL x1 hfx; apply r_load; exact rfl; exact rfl; exact rfl; decide; exact rfl; apply hb_ne (by exact ne_none' (by assumption)); apply hb_ne (by exact ne_none' (by assumption)); apply hb_ne (by exact ne_none' (by assumption))
    apply hb_ne (by exact ne_none' (by assumption)); apply hb_ne (by exact ne_none' (by assumption)); exact setBox_same; exact aLoadA rfl (by rfl) rfl; apply r_callP; exact rfl; exact rfl; exact rfl; exact rfl; exact rfl; infer_instance; exact encR_p w0 hL x1 hfx; apply r_callP; exact rfl; exact rfl; exact rfl; exact rfl; exact rfl; infer_instance; exact same_p w0 x1 hfx; apply r_op; exact rfl
    exact rfl; apply a_move; (conv => (lhs; whnf)); apply r_load; exact rfl; exact rfl; exact rfl; decide; exact rfl; exact setBox_same; exact aLoadA rfl (by rfl) rfl; apply r_callP; exact rfl; exact rfl; exact rfl; exact rfl; exact rfl; infer_instance; exact encW_p w0 hL { x1 with lease := n, want := s, note := s } hfy; apply r_load; exact rfl; exact rfl; exact rfl; decide; exact rfl
    exact setBox_same; exact aLoadA rfl (by rfl) rfl; apply r_callP; exact rfl; exact rfl; exact rfl; exact rfl; exact rfl; infer_instance; exact encR_p w0 hL { x1 with lease := n, want := s, note := s } hfy; apply r_callP; exact rfl; exact rfl; exact rfl; exact rfl; exact rfl; infer_instance; exact same_p w0 { x1 with lease := n, want := s, note := s } hfy; apply r_op; exact rfl; exact rfl
    apply g_pick; apply a_pickT rfl (by exact rfl); (conv => (lhs; whnf)); apply r_op; exact rfl; exact rfl; apply a_assign; (conv => (lhs; whnf)); (with_reducible refine runs_done ?_); refine W.ret ?_; show Q Exit.ret _ _; refine post_p hQ rfl rfl ?_; (conv => (lhs; whnf))
end Go.Proofs.YtkbmkhhcppfcnaaDoor
end
section
set_option linter.unusedVariables false
set_option linter.unusedSimpArgs false
set_option maxRecDepth 100000
set_option maxHeartbeats 2000000
namespace Go.Proofs.YtkbmkhhcppfcnaaDoor
open Go.Al Go.RowKit
theorem enc3_long (x : Sub) : 1 + x.queue.length ≤ (enc3 x).length := by
  rw [enc3_eq]; simp; omega
theorem threeKeys_any (w0 : World) (hL : Laid w0) (c : List UInt8) (t : Tok) (k : UInt8) (hc : c.length ≤ 9223372036854775807) (σ : St) : CallW Tryd.prog w0 5 [.slc 1 (aBytes c) t, .int .u8 k.toNat] σ (fun r _ => r = .bool true) := by
  refine CallW.start Tryd.func5 rfl Tryd.ntmps5 (by simp) fun Q hQ => ?_
  have hk := k.toNat_lt
  refine W.seq ?_; refine W.regionL (by decide +kernel) rfl ?_; apply r_op; exact rfl; exact rfl; apply a_assign; (conv => (lhs; whnf)); refine runs_done ?_; show W _ _ _ _ _ _ _; refine W.seq ?_; refine W.regionL (by decide +kernel) rfl ?_; apply r_op; exact rfl; exact rfl; apply a_move; (conv => (lhs; whnf)); apply r_op; exact rfl; exact rfl; apply a_move; (conv => (lhs; whnf)); apply r_callX
  exact rfl; exact rfl; decide; exact rfl; exact rfl; exact rfl; infer_instance; exact lawsub_any w0 c t k hc _; rintro x1 σ1 ⟨hx1, rfl⟩; apply r_alloc; exact rfl; exact rfl; decide; exact rfl; (conv => (lhs; whnf)); intro b1 hb1; apply r_store; exact rfl; exact rfl; exact rfl; decide; infer_instance; exact rfl; exact setBox_same; (conv => (lhs; whnf)); exact rfl; (conv => (lhs; whnf)); exact rfl
  exact of_decide_eq_true rfl; exact setL_whole rfl; refine runs_done ?_; show W _ _ _ _ _ _ _; refine W.freeze1 5 (eSub x1) (by assumption) rfl rfl rfl ?_
  have hfx := (show Grown (1 + k.toNat) 9 (2 + k.toNat) x1 from hx1).fits
  have hid : ((cl x1.id : Nat) : Int) = x1.id := cl_nn (by have := hx1.id; omega)
  have hup := enc3_up hx1 (by omega)
  have hrow := fun r hr => enc3_row (r := r) hx1 (by omega) hr
  have hlen := enc3_len x1 hfx
  have hlong := enc3_long x1
  have henc := encW_p w0 hL x1 hfx
  generalize enc3 x1 = l at hup hrow hlen hlong henc
  refine W.seq ?_; refine W.regionL (by decide +kernel) rfl ?_; apply r_op; exact rfl; exact rfl; apply g_load; exact a_loadA rfl (by rfl) rfl; apply r_callP; exact rfl; exact rfl; exact rfl; exact rfl; exact rfl; infer_instance; exact henc; apply r_op; exact rfl; exact rfl; apply a_assign; (conv => (lhs; whnf)); refine runs_done ?_; show W _ _ _ _ _ _ _; refine W.seq ?_
  refine W.meet (fun E s => Has [(5, .vp (eSub x1)), (6, .slc 2 (l.map eRow) .no)] E) ?_ ?_
  · refine W.seq ?_
    refine W.regionL (by decide +kernel) rfl ?_; apply r_op; exact rfl; exact rfl; apply a_assign; (conv => (lhs; whnf)); (with_reducible refine runs_done ?_); refine W.block ?_
    refine W.loop (fun n E s => ∃ i : Nat, i ≤ l.length ∧ n = l.length - i ∧ Has [(5, .vp (eSub x1)), (6, .slc 2 (l.map eRow) .no), (7, .int .i64 i)] E) l.length ⟨0, Nat.zero_le _, rfl, by exact Has.by (by repeat (first | exact trivial | refine ⟨by first | trivial | exact Weak.refl _ | exact Weak.tok _ _ _ | exact Weak.of_eq (congrArg (AV.int _) (by omega)) | exact Weak.of_eq (congrArg AV.bool (by fail)) | exact Weak.nils _ _ (.inr rfl), ?_⟩))⟩ ?_
    rintro n E s ⟨i, hi, rfl, hE⟩; refine W.has hE ?_; clear hE; refine W.seq ?_; refine W.seq ?_; refine W.regionL (by decide +kernel) rfl ?_; apply r_op; exact rfl; exact rfl; apply a_move; (conv => (lhs; whnf)); apply r_op; exact rfl; exact rfl; apply a_move; (conv => (lhs; whnf)); apply r_op; exact rfl; exact rfl; apply g_call; exact a_len_slc rfl; apply r_op; exact rfl; exact rfl
    apply g_binOp; exact a_binI rfl rfl rfl; (with_reducible refine runs_done ?_); refine W.cond rfl (fun hc => ?_) (fun hc => ?_)
    · have hlt : i < l.length := by simp at hc; omega
      have ga : l[i]? = some l[i] := by simp [hlt]
      obtain ⟨⟨u, seq, hu, hkey⟩, hval⟩ := hrow l[i] (List.getElem_mem hlt)
      have hp := partsR_any w0 hL l[i].key (by rw [hkey, rkey_length]; decide)
      rw [hkey, parts_rkey (by decide) hu, ePts, hid] at hp
      have hprev : ¬ i = 0 → ∃ pv, l[((i : Int) - 1).toNat]? = some pv ∧ (ltS l[i].key pv.key || decide (l[i].key = pv.key)) = false := fun h0 => by
        obtain ⟨j, rfl⟩ : ∃ j, i = j + 1 := ⟨i - 1, by omega⟩
        have gj : l[j]? = some (l[j]'(by omega)) := by simp
        refine ⟨l[j]'(by omega), by rw [show (((j + 1 : Nat) : Int) - 1).toNat = j by omega]; exact gj, ltS_not_le (hup.get gj ga)⟩
      rw [hkey] at hprev
      have d1 : (!decide (x1.id = x1.id)) = false := by simp
      have d2 : decide ((150 : Int) < ((aBytes l[i].val).length : Int)) = false := decide_eq_false (by rw [length_aBytes]; omega)
      generalize l[i] = r at ga hkey hval hp hprev d2
      rw [← hkey] at hp hprev
      clear hkey hval hc hu
      by_cases h0 : i = 0
      · subst h0
        have d3 : decide ((0 : Int) < ((0 : Nat) : Int)) = false := rfl
        refine W.skip ?_; show W _ _ _ _ _ _ _; refine W.seq ?_; refine W.block ?_; refine W.seq ?_; refine W.regionL (by decide +kernel) rfl ?_; apply r_op; exact rfl; exact rfl; apply a_move; (conv => (lhs; whnf)); apply r_op; exact rfl; exact rfl; apply a_move; (conv => (lhs; whnf)); apply r_op; exact rfl; exact rfl; apply g_indexAddr
        exact a_indexAddr rfl rfl (by decide) (by omega) (by exact get_map ga); apply r_op; exact rfl; exact rfl; apply g_fieldAddr; exact a_fieldAddr1 rfl (by decide) rfl; apply r_op; exact rfl; exact rfl; apply g_load; exact a_load1 rfl rfl; apply r_callP; exact rfl; exact rfl; exact rfl; exact rfl; exact rfl; infer_instance; exact hp; apply r_op; exact rfl; exact rfl; apply a_move
        (conv => (lhs; whnf)); apply r_op; exact rfl; exact rfl; apply g_extract; exact a_extract rfl rfl; apply r_op; exact rfl; exact rfl; apply g_extract; exact a_extract rfl rfl; apply r_op; exact rfl; exact rfl; apply g_extract; exact a_extract rfl rfl; apply r_op; exact rfl; exact rfl; apply g_extract; exact a_extract rfl rfl; apply r_op; exact rfl; exact rfl; apply g_extract
        exact a_extract rfl rfl; apply r_op; exact rfl; exact rfl; apply a_assign; (conv => (lhs; whnf)); apply r_op; exact rfl; exact rfl; apply a_assign; (conv => (lhs; whnf)); apply r_op; exact rfl; exact rfl; apply a_assign; (conv => (lhs; whnf)); apply r_op; exact rfl; exact rfl; apply a_assign; (conv => (lhs; whnf)); apply r_op; exact rfl; exact rfl; apply a_assign; (conv => (lhs; whnf))
        (with_reducible refine runs_done ?_); refine W.seq ?_; refine W.regionDK 1 [] Ty.mixed (by decide +kernel) (by decide +kernel) rfl ?_; apply r_op; exact rfl; exact rfl; apply a_move; (conv => (lhs; whnf)); apply r_op; exact rfl; exact rfl; apply g_unOp; exact a_not rfl; apply r_op; exact rfl; exact rfl; apply a_move; (conv => (lhs; whnf)); apply r_op; exact rfl; exact rfl; apply a_move
        (conv => (lhs; whnf)); apply r_op; exact rfl; exact rfl; apply g_binOp; exact a_binI rfl rfl rfl; apply r_op; exact rfl; exact rfl; apply g_pick; apply a_pickF rfl (by exact rfl); (conv => (lhs; whnf)); apply r_op; exact rfl; exact rfl; apply a_move; (conv => (lhs; whnf)); apply r_op; exact rfl; exact rfl; apply a_move; (conv => (lhs; whnf)); apply r_op; exact rfl; exact rfl
        apply g_fieldAddr; exact a_fieldAddr1 rfl (by decide) rfl; apply r_op; exact rfl; exact rfl; apply g_load; exact a_load1 rfl rfl; apply r_op; exact rfl; exact rfl; apply g_binOp; exact a_binI rfl rfl rfl; apply r_op; exact rfl; exact rfl; apply g_pick; apply a_pickF rfl (by exact rfl); (conv => (lhs; whnf)); apply r_op; exact rfl; exact rfl; apply a_move; (conv => (lhs; whnf)); apply r_op
        exact rfl; exact want_t rfl rfl rfl (by assumption); apply a_move; (conv => (lhs; whnf)); apply r_op; exact rfl; exact want_t rfl rfl rfl (by assumption); apply a_move; (conv => (lhs; whnf)); apply r_op; exact rfl; exact want_t rfl rfl rfl (by assumption); apply g_indexAddr; exact a_indexAddr rfl rfl (by decide) (by omega) (by exact get_map ga); apply r_op; exact rfl
        exact want_t rfl rfl rfl (by assumption); apply g_fieldAddr; exact a_fieldAddr1 rfl (by decide) rfl; apply r_op; exact rfl; exact want_t rfl rfl rfl (by assumption); apply g_load; exact a_load1 rfl rfl; apply r_op; exact rfl; exact want_t rfl rfl rfl (by assumption); apply g_call; exact a_len_slc rfl; apply r_op; exact rfl; exact want_t rfl rfl rfl (by assumption); apply g_binOp
        exact a_binI rfl rfl rfl; apply r_op; exact rfl; exact rfl; apply g_pick; apply a_pickF rfl (by assumption); (conv => (lhs; whnf)); apply r_op; exact rfl; exact rfl; apply a_move; (conv => (lhs; whnf)); apply r_op; exact rfl; exact want_t rfl rfl rfl (by assumption); apply a_move; (conv => (lhs; whnf)); apply r_op; exact rfl; exact want_t rfl rfl rfl (by assumption); apply g_binOp
        exact a_binI rfl rfl rfl; apply r_op; exact rfl; exact want_t rfl rfl rfl (by assumption); apply a_move; (conv => (lhs; whnf)); apply q_skip; exact rfl; exact want_f rfl rfl rfl (by exact rfl); apply q_skip; exact rfl; exact want_f rfl rfl rfl (by exact rfl); apply q_skip; exact rfl; exact want_f rfl rfl rfl (by exact rfl); apply q_skip; exact rfl; exact want_f rfl rfl rfl (by exact rfl)
        apply q_skip; exact rfl; exact want_f rfl rfl rfl (by exact rfl); apply q_skip; exact rfl; exact want_f rfl rfl rfl (by exact rfl); apply q_skip; exact rfl; exact want_f rfl rfl rfl (by exact rfl); apply q_skip; exact rfl; exact want_f rfl rfl rfl (by exact rfl); apply q_skip; exact rfl; exact want_f rfl rfl rfl (by exact rfl); apply q_skip; exact rfl
        exact want_f rfl rfl rfl (by exact rfl); apply q_skip; exact rfl; exact want_f rfl rfl rfl (by exact rfl); apply q_skip; exact rfl; exact want_f rfl rfl rfl (by exact rfl); apply r_op; exact rfl; exact want_t rfl rfl rfl (by assumption); apply g_pick; apply a_pickF rfl (by exact rfl); (conv => (lhs; whnf)); apply r_op; exact rfl; exact rfl; apply g_pick; apply a_pickF rfl (by assumption)
        (conv => (lhs; whnf)); (with_reducible refine runs_done ?_); refine W.condF rfl (by exact rfl) ?_; refine W.skip ?_; show W _ _ _ _ _ _ _; refine W.regionL (by decide +kernel) rfl ?_; apply r_op; exact rfl; exact rfl; apply a_move; (conv => (lhs; whnf)); apply r_op; exact rfl; exact rfl; apply g_binOp; exact a_add64 rfl rfl (by omega); apply r_op; exact rfl; exact rfl; apply a_assign
        (conv => (lhs; whnf)); (with_reducible refine runs_done ?_)
        exact ⟨l.length - (0 + 1), by omega, 0 + 1, by omega, rfl, by exact Has.by (by repeat (first | exact trivial | refine ⟨by first | trivial | exact Weak.refl _ | exact Weak.tok _ _ _ | exact Weak.of_eq (congrArg (AV.int _) (by omega)) | exact Weak.of_eq (congrArg AV.bool (by fail)) | exact Weak.nils _ _ (.inr rfl), ?_⟩))⟩
      · have d3 : decide ((0 : Int) < (i : Int)) = true := decide_eq_true (by omega)
        obtain ⟨pv, gp, d4⟩ := hprev h0
        refine W.skip ?_; show W _ _ _ _ _ _ _; refine W.seq ?_; refine W.block ?_; refine W.seq ?_; refine W.regionL (by decide +kernel) rfl ?_; apply r_op; exact rfl; exact rfl; apply a_move; (conv => (lhs; whnf)); apply r_op; exact rfl; exact rfl; apply a_move; (conv => (lhs; whnf)); apply r_op; exact rfl; exact rfl; apply g_indexAddr
        exact a_indexAddr rfl rfl (by decide) (by omega) (by exact get_map ga); apply r_op; exact rfl; exact rfl; apply g_fieldAddr; exact a_fieldAddr1 rfl (by decide) rfl; apply r_op; exact rfl; exact rfl; apply g_load; exact a_load1 rfl rfl; apply r_callP; exact rfl; exact rfl; exact rfl; exact rfl; exact rfl; infer_instance; exact hp; apply r_op; exact rfl; exact rfl; apply a_move
        (conv => (lhs; whnf)); apply r_op; exact rfl; exact rfl; apply g_extract; exact a_extract rfl rfl; apply r_op; exact rfl; exact rfl; apply g_extract; exact a_extract rfl rfl; apply r_op; exact rfl; exact rfl; apply g_extract; exact a_extract rfl rfl; apply r_op; exact rfl; exact rfl; apply g_extract; exact a_extract rfl rfl; apply r_op; exact rfl; exact rfl; apply g_extract
        exact a_extract rfl rfl; apply r_op; exact rfl; exact rfl; apply a_assign; (conv => (lhs; whnf)); apply r_op; exact rfl; exact rfl; apply a_assign; (conv => (lhs; whnf)); apply r_op; exact rfl; exact rfl; apply a_assign; (conv => (lhs; whnf)); apply r_op; exact rfl; exact rfl; apply a_assign; (conv => (lhs; whnf)); apply r_op; exact rfl; exact rfl; apply a_assign; (conv => (lhs; whnf))
        (with_reducible refine runs_done ?_); refine W.seq ?_; refine W.regionDK 1 [] Ty.mixed (by decide +kernel) (by decide +kernel) rfl ?_; apply r_op; exact rfl; exact rfl; apply a_move; (conv => (lhs; whnf)); apply r_op; exact rfl; exact rfl; apply g_unOp; exact a_not rfl; apply r_op; exact rfl; exact rfl; apply a_move; (conv => (lhs; whnf)); apply r_op; exact rfl; exact rfl; apply a_move
        (conv => (lhs; whnf)); apply r_op; exact rfl; exact rfl; apply g_binOp; exact a_binI rfl rfl rfl; apply r_op; exact rfl; exact rfl; apply g_pick; apply a_pickF rfl (by exact rfl); (conv => (lhs; whnf)); apply r_op; exact rfl; exact rfl; apply a_move; (conv => (lhs; whnf)); apply r_op; exact rfl; exact rfl; apply a_move; (conv => (lhs; whnf)); apply r_op; exact rfl; exact rfl
        apply g_fieldAddr; exact a_fieldAddr1 rfl (by decide) rfl; apply r_op; exact rfl; exact rfl; apply g_load; exact a_load1 rfl rfl; apply r_op; exact rfl; exact rfl; apply g_binOp; exact a_binI rfl rfl rfl; apply r_op; exact rfl; exact rfl; apply g_pick; apply a_pickF rfl (by exact rfl); (conv => (lhs; whnf)); apply r_op; exact rfl; exact rfl; apply a_move; (conv => (lhs; whnf)); apply r_op
        exact rfl; exact want_t rfl rfl rfl (by assumption); apply a_move; (conv => (lhs; whnf)); apply r_op; exact rfl; exact want_t rfl rfl rfl (by assumption); apply a_move; (conv => (lhs; whnf)); apply r_op; exact rfl; exact want_t rfl rfl rfl (by assumption); apply g_indexAddr; exact a_indexAddr rfl rfl (by decide) (by omega) (by exact get_map ga); apply r_op; exact rfl
        exact want_t rfl rfl rfl (by assumption); apply g_fieldAddr; exact a_fieldAddr1 rfl (by decide) rfl; apply r_op; exact rfl; exact want_t rfl rfl rfl (by assumption); apply g_load; exact a_load1 rfl rfl; apply r_op; exact rfl; exact want_t rfl rfl rfl (by assumption); apply g_call; exact a_len_slc rfl; apply r_op; exact rfl; exact want_t rfl rfl rfl (by assumption); apply g_binOp
        exact a_binI rfl rfl rfl; apply r_op; exact rfl; exact rfl; apply g_pick; apply a_pickF rfl (by assumption); (conv => (lhs; whnf)); apply r_op; exact rfl; exact rfl; apply a_move; (conv => (lhs; whnf)); apply r_op; exact rfl; exact want_t rfl rfl rfl (by assumption); apply a_move; (conv => (lhs; whnf)); apply r_op; exact rfl; exact want_t rfl rfl rfl (by assumption); apply g_binOp
        exact a_binI rfl rfl rfl; apply r_op; exact rfl; exact want_t rfl rfl rfl (by assumption); apply a_move; (conv => (lhs; whnf)); apply r_op; exact rfl; exact want_t rfl rfl rfl (by assumption); apply a_move; (conv => (lhs; whnf)); apply r_op; exact rfl; exact want_t rfl rfl rfl (by assumption); apply a_move; (conv => (lhs; whnf)); apply r_op; exact rfl
        exact want_t rfl rfl rfl (by assumption); apply g_indexAddr; exact a_indexAddr rfl rfl (by decide) (by omega) (by exact get_map ga); apply r_op; exact rfl; exact want_t rfl rfl rfl (by assumption); apply g_fieldAddr; exact a_fieldAddr1 rfl (by decide) rfl; apply r_op; exact rfl; exact want_t rfl rfl rfl (by assumption); apply g_load; exact a_load1 rfl rfl; apply r_op; exact rfl
        exact want_t rfl rfl rfl (by assumption); apply a_move; (conv => (lhs; whnf)); apply r_op; exact rfl; exact want_t rfl rfl rfl (by assumption); apply a_move; (conv => (lhs; whnf)); apply r_op; exact rfl; exact want_t rfl rfl rfl (by assumption); apply g_binOp; exact a_sub64 rfl rfl (by omega); apply r_op; exact rfl; exact want_t rfl rfl rfl (by assumption); apply g_indexAddr
        exact a_indexAddr rfl rfl (by decide) (by omega) (by exact get_map gp); apply r_op; exact rfl; exact want_t rfl rfl rfl (by assumption); apply g_fieldAddr; exact a_fieldAddr1 rfl (by decide) rfl; apply r_op; exact rfl; exact want_t rfl rfl rfl (by assumption); apply g_load; exact a_load1 rfl rfl; apply r_op; exact rfl; exact want_t rfl rfl rfl (by assumption); apply g_binOp
        exact a_binS rfl rfl rfl rfl; apply r_op; exact rfl; exact want_t rfl rfl rfl (by assumption); apply g_pick; apply a_pickT rfl (by assumption); (conv => (lhs; whnf)); apply r_op; exact rfl; exact rfl; apply g_pick; apply a_pickF rfl (by assumption); (conv => (lhs; whnf)); (with_reducible refine runs_done ?_); refine W.condF rfl (by assumption) ?_; refine W.skip ?_; show W _ _ _ _ _ _ _
        refine W.regionL (by decide +kernel) rfl ?_; apply r_op; exact rfl; exact rfl; apply a_move; (conv => (lhs; whnf)); apply r_op; exact rfl; exact rfl; apply g_binOp; exact a_add64 rfl rfl (by omega); apply r_op; exact rfl; exact rfl; apply a_assign; (conv => (lhs; whnf)); (with_reducible refine runs_done ?_)
        exact ⟨l.length - (i + 1), by omega, i + 1, by omega, rfl, by exact Has.by (by repeat (first | exact trivial | refine ⟨by first | trivial | exact Weak.refl _ | exact Weak.tok _ _ _ | exact Weak.of_eq (congrArg (AV.int _) (by omega)) | exact Weak.of_eq (congrArg AV.bool (by fail)) | exact Weak.nils _ _ (.inr rfl), ?_⟩))⟩
    · refine W.exit ?_
      exact Has.by (by repeat (first | exact trivial | refine ⟨by first | trivial | exact Weak.refl _ | exact Weak.tok _ _ _ | exact Weak.of_eq (congrArg (AV.int _) (by omega)) | exact Weak.of_eq (congrArg AV.bool (by fail)) | exact Weak.nils _ _ (.inr rfl), ?_⟩))
  · rintro E s hE
    refine W.has hE ?_; clear hE
    have d5 : decide (1 + ((x1.queue.map eMsg).length : Int) ≤ ((l.map eRow).length : Int)) = true := decide_eq_true (by simp; omega)
    refine W.seq ?_; refine W.regionL (by decide +kernel) rfl ?_; apply r_callP; exact rfl; exact rfl; exact rfl; exact rfl; exact rfl; infer_instance; exact known_any w0 hL; apply r_op; exact rfl; exact rfl; apply a_move; (conv => (lhs; whnf)); apply r_op; exact rfl; exact rfl; apply a_move; (conv => (lhs; whnf)); apply r_op; exact rfl; exact rfl; apply g_call; exact a_len_slc rfl; apply r_op
    exact rfl; exact rfl; apply g_fieldAddr; exact a_fieldAddr1 rfl (by decide) rfl; apply r_op; exact rfl; exact rfl; apply g_load; exact a_load1 rfl rfl; apply r_op; exact rfl; exact rfl; apply g_call; exact a_len_slc rfl; apply r_op; exact rfl; exact rfl; apply g_binOp
    exact a_add64 rfl rfl (by simp only [List.length_cons, List.length_append, List.length_nil, List.length_map, length_aBytes, List.length_replicate, List.length_range]; omega); apply r_op; exact rfl; exact rfl; apply g_binOp; exact a_binI rfl rfl rfl; apply r_op; exact rfl; exact rfl; apply g_pick; apply a_pickT rfl (by exact rfl); (conv => (lhs; whnf)); apply r_op; exact rfl; exact rfl
    apply a_assign; (conv => (lhs; whnf)); (with_reducible refine runs_done ?_); refine W.ret ?_; show Q Exit.ret _ _; refine post_p hQ rfl rfl ?_; (conv => (lhs; whnf))
    rw [d5]
end Go.Proofs.YtkbmkhhcppfcnaaDoor
end
section
set_option linter.unusedVariables false
set_option linter.unusedSimpArgs false
set_option maxRecDepth 100000
set_option maxHeartbeats 4000000
namespace Go.Proofs.YtkbmkhhcppfcnaaDoor
open Go.Al Go.RowKit
theorem rt_in (w0 : World) {b : Nat} {S : St} {v : List UInt8} {a a' most : Nat} {f f' : Option Nat} {s : List UInt8} (h : rText v a f most = (s, a', f')) (hv : v.length ≤ 1000000) (ha : a ≤ 1000000) (hm : most ≤ 1000000) :
    CallW Tryd.prog w0 47 [.ptr b 0, .int .i64 most] (S.setBox b (rd v a f)) (fun r s' => r = .str s ∧ s' = S.setBox b (rd v a' f')) := by
  have := rtext_any w0 v a most f b (S.setBox b (rd v a f)) hv ha hm setBox_same
  rw [h, setBox_setBox] at this
  exact this
theorem rn_in (w0 : World) {b : Nat} {S : St} {v : List UInt8} {a a' n : Nat} {f f' : Option Nat} (h : rNum v a f = (n, a', f')) (hv : v.length ≤ 1000000) (ha : a ≤ 1000000) :
    CallW Tryd.prog w0 45 [.ptr b 0] (S.setBox b (rd v a f)) (fun r s' => r = .int .i64 n ∧ s' = S.setBox b (rd v a' f')) := by
  have := rnum_any w0 v a f b (S.setBox b (rd v a f)) hv ha setBox_same
  rw [h, setBox_setBox] at this
  exact this
theorem rt_to {v : List UInt8} {a : Nat} (f : Option Nat) (most : Nat) (hv : v.length ≤ 1000000) (ha : a ≤ 1000000) : ∃ s a' f', rText v a f most = (s, a', f') ∧ a' ≤ 1000000 :=
  ⟨(rText v a f most).1, (rText v a f most).2.1, (rText v a f most).2.2, rfl, by have := rText_far v a f most; omega⟩
theorem rn_to {v : List UInt8} {a : Nat} (f : Option Nat) (hv : v.length ≤ 1000000) (ha : a ≤ 1000000) : ∃ n a' f', rNum v a f = (n, a', f') ∧ a' ≤ 1000000 :=
  ⟨(rNum v a f).1, (rNum v a f).2.1, (rNum v a f).2.2, rfl, by have := rNum_far v a f; omega⟩
theorem message_any (w0 : World) {b : Nat} {S : St} {v : List UInt8} {a : Nat} {f : Option Nat} (seq : Int) (hv : v.length ≤ 1000000) (ha : a ≤ 1000000) :
    CallW Tryd.prog w0 46 [.int .i64 seq, .ptr b 0] (S.setBox b (rd v a f)) (fun r s => r = eMsg (rMsg seq v a f).1 ∧ s = S.setBox b (rd v (rMsg seq v a f).2.1 (rMsg seq v a f).2.2)) := by
  refine CallW.start Tryd.func46 rfl Tryd.ntmps46 (by simp) fun Q hQ => ?_
  obtain ⟨s1, a1, f1, e1, k1⟩ := rt_to f 60 hv ha
  obtain ⟨s2, a2, f2, e2, k2⟩ := rt_to f1 30 hv k1
  obtain ⟨n3, a3, f3, e3, k3⟩ := rn_to f2 hv k2
  obtain ⟨n4, a4, f4, e4, k4⟩ := rn_to f3 hv k3
  obtain ⟨n5, a5, f5, e5, k5⟩ := rn_to f4 hv k4
  obtain ⟨n6, a6, f6, e6, k6⟩ := rn_to f5 hv k5
  have hr : rMsg seq v a f = (⟨seq, s1, s2, n3, n4, decide ((0 : Int) < (n6 : Int)), whyN (min n6 2), n5⟩, a6, f6) := by simp only [rMsg, e1, e2, e3, e4, e5, e6]
  rw [hr] at hQ
  clear hr
  obtain ⟨j, hj, hw⟩ : ∃ j : Nat, min (n6 : Int) 2 = (j : Nat) ∧ [AV.str [], AV.str [110, 97, 99, 107], AV.str [116, 105, 109, 101]][((j : Nat) : Int).toNat * 1]? = some (.str (whyN (min n6 2))) := by
    refine ⟨min n6 2, by omega, ?_⟩
    have : min n6 2 < 3 := by omega
    generalize min n6 2 = q at this
    match q, this with
    | 0, _ => rfl
    | 1, _ => rfl
    | 2, _ => rfl
  have hjl : j ≤ 2 := by omega
  generalize whyN (min n6 2) = wy at hw hQ
  refine W.seq ?_; refine W.regionL (by decide +kernel) rfl ?_; apply r_alloc; exact rfl; exact rfl; decide; exact rfl; (conv => (lhs; whnf)); intro b1 hb1; refine runs_done ?_; show W _ _ _ _ _ _ _
  have hne : b1 ≠ b := ne_none hb1
  have hb4 : S.box b1 = none := none_in hb1
  rw [setBox_comm hne.symm]
  generalize b1 = b4 at *
  refine W.seq ?_; refine W.regionL (by decide +kernel) rfl ?_; apply r_op; exact rfl; exact rfl; apply a_move; (conv => (lhs; whnf)); apply r_op; exact rfl; exact rfl; apply a_move; (conv => (lhs; whnf)); apply r_callS; exact rfl; exact rfl; decide; exact rfl; exact rfl; exact rfl; infer_instance; exact rt_in w0 e1 hv ha (by decide); apply r_op; exact rfl; exact rfl; apply a_move
  (conv => (lhs; whnf)); apply r_callS; exact rfl; exact rfl; decide; exact rfl; exact rfl; exact rfl; infer_instance; exact rt_in w0 e2 hv k1 (by decide); apply r_op; exact rfl; exact rfl; apply a_move; (conv => (lhs; whnf)); apply r_callS; exact rfl; exact rfl; decide; exact rfl; exact rfl; exact rfl; infer_instance; exact rn_in w0 e3 hv k2; apply r_op; exact rfl; exact rfl; apply a_move
  (conv => (lhs; whnf)); apply r_callS; exact rfl; exact rfl; decide; exact rfl; exact rfl; exact rfl; infer_instance; exact rn_in w0 e4 hv k3; apply r_op; exact rfl; exact rfl; apply a_move; (conv => (lhs; whnf)); apply r_callS; exact rfl; exact rfl; decide; exact rfl; exact rfl; exact rfl; infer_instance; exact rn_in w0 e5 hv k4; apply r_op; exact rfl; exact rfl; apply g_build; apply a_build
  apply EvP.cons (by (conv => (lhs; whnf))); apply EvP.cons (by (conv => (lhs; whnf))); apply EvP.cons (by (conv => (lhs; whnf))); apply EvP.cons (by (conv => (lhs; whnf))); apply EvP.cons (by (conv => (lhs; whnf))); apply EvP.cons (by (conv => (lhs; whnf))); exact EvP.nil
  simp only [aFill, List.getElem?_cons_zero, List.getElem?_cons_succ, AV.cells, List.length_cons, List.length_nil, AV.flat, AV.one, setL, List.set_cons_zero, List.set_cons_succ, Nat.reduceAdd, Nat.reduceLeDiff, Nat.reduceMul, and_self, if_true, ↓reduceIte, Nat.zero_add, Nat.le_refl, List.range, List.range.loop, List.map_cons, List.map_nil, Nat.zero_le]
  rfl; apply r_alloc; exact rfl; exact rfl; decide; exact rfl; (conv => (lhs; whnf)); intro b1 hb1; apply r_store; exact rfl; exact rfl; exact rfl; decide; infer_instance; exact rfl; exact setBox_same; (conv => (lhs; whnf)); exact rfl; (conv => (lhs; whnf)); exact rfl; exact of_decide_eq_true rfl; exact setL_whole rfl; refine runs_done ?_; show W _ _ _ _ _ _ _
  have hne5 : b1 ≠ b := ne_none hb1
  have hb5' := none_in hb1
  have hne45 : b1 ≠ b4 := ne_none hb5'
  have hb5 : S.box b1 = none := none_in hb5'
  clear hb5'
  rw [setBox_setBox, setBox_comm hne5.symm]
  generalize b1 = b5 at *
  generalize hS2 : (S.setBox b4 _).setBox b5 _ = S2
  have h5 : S2.box b5 = some [.int .i64 seq, .str s1, .str s2, .int .i64 n3, .int .i64 n4, .bool false, .str [], .int .i64 n5] := by rw [← hS2]; exact setBox_same
  have h4 : S2.box b4 = some [.int .i64 0, .str [], .str [], .int .i64 0, .int .i64 0, .bool false, .str [], .int .i64 0] := by rw [← hS2]; exact hb_ne hne45.symm setBox_same
  have hle : St.Le (S.setBox b (rd v a6 f6)) (S2.setBox b (rd v a6 f6)) := by
    rw [← hS2, setBox_comm hne5, setBox_comm hne]
    exact le_setBox (le_setBox (.refl _) (by rw [setBox_ne hne]; exact hb4)) (by rw [setBox_ne hne5]; exact hb5)
  have h4n : (S.setBox b (rd v a6 f6)).box b4 = none := by rw [setBox_ne hne]; exact hb4
  have h5n : (S.setBox b (rd v a6 f6)).box b5 = none := by rw [setBox_ne hne5]; exact hb5
  have hn : ∀ c, (S2.setBox b (rd v a6 f6)).box c = none → (S.setBox b (rd v a6 f6)).box c = none := fun c hc => by
    cases hq : (S.setBox b (rd v a6 f6)).box c with
    | none => rfl
    | some cs => rw [hle.box c cs hq] at hc; cases hc
  clear hS2; refine W.seq ?_; refine W.regionL (by decide +kernel) rfl ?_; apply r_op; exact rfl; exact rfl; apply a_move; (conv => (lhs; whnf)); apply r_callS; exact rfl; exact rfl; decide; exact rfl; exact rfl; exact rfl; infer_instance; exact rn_in w0 e6 hv k5; apply r_op; exact rfl; exact rfl; apply a_assign; (conv => (lhs; whnf)); refine runs_done ?_; show W _ _ _ _ _ _ _; refine W.seq ?_
  refine W.regionL (by decide +kernel) rfl ?_; apply r_callP; exact rfl; exact rfl; exact rfl; exact rfl; exact rfl; infer_instance; exact whys_any w0; apply r_alloc; exact rfl; exact rfl; decide; exact rfl; (conv => (lhs; whnf)); intro b1 hb1; apply r_store; exact rfl; exact rfl; exact rfl; decide; infer_instance; exact rfl; exact setBox_same; (conv => (lhs; whnf)); exact rfl
  (conv => (lhs; whnf)); exact rfl; exact of_decide_eq_true rfl; exact setL_whole rfl; refine runs_done ?_; show W _ _ _ _ _ _ _; refine W.freeze1 7 (.agg [AV.str [], AV.str [110, 97, 99, 107], AV.str [116, 105, 109, 101]]) (by assumption) rfl rfl rfl ?_; clear hn
  generalize hS3 : S2.setBox b _ = S3 at hle ⊢
  have g5 : S3.box b5 = some [.int .i64 seq, .str s1, .str s2, .int .i64 n3, .int .i64 n4, .bool false, .str [], .int .i64 n5] := by rw [← hS3]; exact hb_ne hne5 h5
  have g4 : S3.box b4 = some [.int .i64 0, .str [], .str [], .int .i64 0, .int .i64 0, .bool false, .str [], .int .i64 0] := by rw [← hS3]; exact hb_ne hne h4
  clear hb1 hS3 h4 h5 S2; refine W.seq ?_; refine W.regionDK 0 [] Ty.mixed (by decide +kernel) (by decide +kernel) rfl ?_; apply r_op; exact rfl; exact rfl; apply a_move; (conv => (lhs; whnf)); apply r_op; exact rfl; exact rfl; apply g_binOp; exact a_binI rfl rfl rfl; apply r_op; exact rfl; exact rfl; apply a_move; (conv => (lhs; whnf)); apply r_op; exact rfl; exact rfl; apply g_call
  exact a_minE rfl rfl hj; apply r_indexV1; exact rfl; exact rfl; exact rfl; exact rfl; exact rfl; infer_instance; infer_instance; infer_instance; omega; exact hw; apply r_op; exact rfl; exact rfl; apply g_load; exact a_load1 rfl rfl; apply r_op; exact rfl; exact rfl; apply g_fieldAddr; exact a_fieldAddrP rfl (by decide); apply r_store; exact rfl; exact rfl; exact rfl; decide; infer_instance
  exact rfl; assumption; (conv => (lhs; whnf)); exact rfl; (conv => (lhs; whnf)); exact rfl; exact of_decide_eq_true rfl; exact rfl; apply r_op; exact rfl; exact rfl; apply g_fieldAddr; exact a_fieldAddrP rfl (by decide); apply r_store; exact rfl; exact rfl; exact rfl; decide; infer_instance; exact rfl; exact setBox_same; (conv => (lhs; whnf)); exact rfl; (conv => (lhs; whnf)); exact rfl
  exact of_decide_eq_true rfl; exact rfl; (with_reducible refine runs_done ?_); refine W.seq ?_; refine W.regionL (by decide +kernel) rfl ?_; apply r_load; exact rfl; exact rfl; exact rfl; decide; exact rfl; exact setBox_same; exact aLoadA rfl (by rfl) rfl; apply r_store; exact rfl; exact rfl; exact rfl; decide; infer_instance; exact rfl
  apply hb_ne (by exact ne_none' (by exact none_in (by assumption))); apply hb_ne (by exact ne_none' (by exact none_in (by assumption))); assumption; (conv => (lhs; whnf)); exact rfl; (conv => (lhs; whnf)); exact rfl; exact of_decide_eq_true rfl; exact setL_whole rfl; (with_reducible refine runs_done ?_); refine W.ret ?_; show Q Exit.ret _ _
  refine post_q hQ (by apply res_cell; exact rfl; exact setBox_same; exact aLoadA rfl (by rfl) rfl; exact res_nil) (.inl rfl) ?_ ?_; rotate_left; rotate_left
  · exact le_setBox (le_setBox (le_setBox hle h5n) h5n) h4n
  · rfl
end Go.Proofs.YtkbmkhhcppfcnaaDoor
end
