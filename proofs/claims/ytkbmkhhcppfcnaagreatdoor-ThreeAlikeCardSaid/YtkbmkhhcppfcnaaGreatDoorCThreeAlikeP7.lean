/- The law ThreeAlike returns true for every input, and its arguments read as before: the tied card. No conditions. This is part 7 of 8 of its proof; the parts are read in order. No conditions. -/
import Derived.Test.YtkbmkhhcppfcnaaGreatDoorCThreeAlikeP6
section
set_option linter.unusedVariables false
set_option linter.unusedSimpArgs false
set_option maxRecDepth 100000
set_option maxHeartbeats 2000000
namespace Go.Proofs.YtkbmkhhcppfcnaaGreatDoor
open Go.Al Go.RowKit
def z27 : List AV := [.int .i64 0, .str [], .str [], .str [], .int .i64 0, .int .i64 0, .int .i64 0, .nils, .nils, .str []]
def x27 : List AV := [.int .i64 1, .str [110], .str [35], .str [], .int .i64 1, .int .i64 1, .int .i64 0, .nils, .nils, .str []]
theorem dec_known (w0 : Base) (hL : Laid w0) : CallP Tryz.prog w0 15 [.slc 2 [eRow row0] .no] (.tup [xA, .int .u16 0]) := by
  refine CallP.start Tryz.func15 rfl Tryz.ntmps15 (by simp) fun σ Q hQ => ?_
  have hp := parts_key w0 hL 3 (by decide) 115 (by decide) 1 0 (by decide) (by decide)
  have hen := enc_xA w0 hL
  have heq := eqRows_any w0 [row0] [row0] .no .no (by decide)
  rw [show decide ([row0] = [row0]) = true by simp] at heq
  have t1 : rText V0 0 none 30 = ([110], 2, none) := by decide +kernel
  have t2 : rText V0 2 none 30 = ([35], 4, none) := by decide +kernel
  have t3 : rText V0 4 none 30 = ([], 5, none) := by decide +kernel
  have n1 : rNum V0 5 none = (1, 6, none) := by decide +kernel
  have n2 : rNum V0 6 none = (1, 7, none) := by decide +kernel
  have n3 : rNum V0 7 none = (0, 8, none) := by decide +kernel
  have t4 : rText V0 8 none 30 = ([], 9, none) := by decide +kernel
  refine W.seq ?_; refine W.regionL (by decide +kernel) rfl ?_; apply r_alloc; exact rfl; exact rfl; decide; exact rfl; (conv => (lhs; whnf)); intro b1 hb1; apply r_op; exact rfl; exact rfl; apply a_assign; (conv => (lhs; whnf)); (with_reducible refine runs_done ?_); refine W.seq ?_; refine W.regionL (by decide +kernel) rfl ?_; apply r_alloc; exact rfl; exact rfl; decide; exact rfl
  (conv => (lhs; whnf)); intro b1 hb1; (with_reducible refine runs_done ?_); refine W.seq ?_; refine W.regionL (by decide +kernel) rfl ?_; apply r_op; exact rfl; exact rfl; apply a_assign; (conv => (lhs; whnf)); (with_reducible refine runs_done ?_); refine W.seq ?_; refine W.regionL (by decide +kernel) rfl ?_; apply r_op; exact rfl; exact rfl; apply a_assign; (conv => (lhs; whnf))
  (with_reducible refine runs_done ?_); refine W.seq ?_; refine W.seq ?_; refine W.regionL (by decide +kernel) rfl ?_; apply r_op; exact rfl; exact rfl; apply a_move; (conv => (lhs; whnf)); apply r_op; exact rfl; exact rfl; apply g_call; exact a_len_slc rfl; apply r_op; exact rfl; exact rfl; apply a_move; (conv => (lhs; whnf)); (with_reducible refine runs_done ?_); refine W.block ?_
  rename_i b2 hb2
  have hne : b2 ≠ b1 := ne_none' hb1
  have hs4 : σ.box b1 = none := none_in hb1
  generalize b1 = b4 at hne hs4 hb1 ⊢
  refine W.loop (fun k E s => (k = 1 ∧ s = (σ.setBox b2 z27).setBox b4 z27 ∧ Has [(0, .slc 2 [eRow row0] .no), (2, .ptr b2 0), (3, .int .u16 0), (4, .ptr b4 0), (5, .nils), (6, .bool true), (20, .slc 2 [eRow row0] .no), (21, .int .i64 1), (22, .int .i64 0)] E) ∨ (k = 0 ∧ s.box b2 = some z27 ∧ s.box b4 = some x27 ∧ St.Le σ s ∧ Has [(0, .slc 2 [eRow row0] .no), (2, .ptr b2 0), (3, .int .u16 0), (4, .ptr b4 0), (5, .nils), (6, .bool true), (20, .slc 2 [eRow row0] .no), (21, .int .i64 1), (22, .int .i64 1)] E)) 1 (.inl ⟨rfl, rfl, by exact Has.by (by repeat (first | exact trivial | refine ⟨by first | trivial | exact Weak.refl _ | exact Weak.tok _ _ _ | exact Weak.of_eq (congrArg (AV.int _) (by omega)) | exact Weak.nils _ _ (.inr rfl), ?_⟩))⟩) ?_
  rintro k E s (⟨rfl, rfl, hE⟩ | ⟨rfl, h2, h4, hle, hE⟩)
  · refine W.has hE ?_
    clear hE
    unfold z27
    refine W.seq ?_; refine W.regionL (by decide +kernel) rfl ?_; apply r_op; exact rfl; exact rfl; apply g_binOp; exact a_binI rfl rfl rfl; (with_reducible refine runs_done ?_); refine W.seq ?_; refine W.condT rfl (by exact rfl) ?_; refine W.skip ?_; show W _ _ _ _ _ _ _; refine W.seq ?_; refine W.block ?_; refine W.seq ?_; refine W.regionL (by decide +kernel) rfl ?_; apply r_op; exact rfl
    exact rfl; apply a_move; (conv => (lhs; whnf)); apply r_op; exact rfl; exact rfl; apply g_indexAddr; exact a_indexAddr rfl rfl (by decide) (by omega) (by exact rfl); apply r_op; exact rfl; exact rfl; apply g_load; exact a_loadA rfl (by rfl) rfl; apply r_alloc; exact rfl; exact rfl; decide; exact rfl; (conv => (lhs; whnf)); intro b1 hb1; apply r_op; exact rfl; exact rfl; apply a_assign
    (conv => (lhs; whnf)); apply r_store; exact rfl; exact rfl; exact rfl; decide; infer_instance; exact rfl; exact setBox_same; (conv => (lhs; whnf)); exact rfl; (conv => (lhs; whnf)); exact rfl; exact of_decide_eq_true rfl; exact setL_whole rfl; (with_reducible refine runs_done ?_); refine W.seq ?_; refine W.regionL (by decide +kernel) rfl ?_; apply r_op; exact rfl; exact rfl; apply g_fieldAddr
    exact a_fieldAddrP rfl (by decide); apply r_load; exact rfl; exact rfl; exact rfl; decide; exact rfl; exact setBox_same; exact aLoad1 rfl; apply r_callP; exact rfl; exact rfl; exact rfl; exact rfl; exact rfl; infer_instance; exact hp; apply r_op; exact rfl; exact rfl; apply a_move; (conv => (lhs; whnf)); apply r_op; exact rfl; exact rfl; apply g_extract; exact a_extract rfl rfl; apply r_op
    exact rfl; exact rfl; apply g_extract; exact a_extract rfl rfl; apply r_op; exact rfl; exact rfl; apply g_extract; exact a_extract rfl rfl; apply r_op; exact rfl; exact rfl; apply g_extract; exact a_extract rfl rfl; apply r_op; exact rfl; exact rfl; apply g_extract; exact a_extract rfl rfl; apply r_op; exact rfl; exact rfl; apply a_assign; (conv => (lhs; whnf)); apply r_op; exact rfl; exact rfl
    apply a_assign; (conv => (lhs; whnf)); apply r_op; exact rfl; exact rfl; apply a_assign; (conv => (lhs; whnf)); apply r_op; exact rfl; exact rfl; apply a_assign; (conv => (lhs; whnf)); apply r_op; exact rfl; exact rfl; apply a_assign; (conv => (lhs; whnf)); (with_reducible refine runs_done ?_); refine W.seq ?_; refine W.regionL (by decide +kernel) rfl ?_; apply r_op; exact rfl; exact rfl
    apply a_move; (conv => (lhs; whnf)); apply r_op; exact rfl; exact rfl; apply g_fieldAddr; exact a_fieldAddrP rfl (by decide); apply r_store; exact rfl; exact rfl; exact rfl; decide; infer_instance; exact rfl; apply hb_ne (by exact ne_none' (by assumption)); apply hb_ne (by exact ne_none' (by assumption)); exact setBox_same; (conv => (lhs; whnf)); exact rfl; (conv => (lhs; whnf)); exact rfl
    exact of_decide_eq_true rfl; exact rfl; (with_reducible refine runs_done ?_); refine W.seq ?_; refine W.regionL (by decide +kernel) rfl ?_; apply r_op; exact rfl; exact rfl; apply g_fieldAddr; exact a_fieldAddrP rfl (by decide); apply r_load; exact rfl; exact rfl; exact rfl; decide; exact rfl; apply hb_ne (by exact ne_none (by assumption)); exact setBox_same; exact aLoad1 rfl; apply r_op
    exact rfl; exact rfl; apply g_build; apply a_build; apply EvP.cons (by (conv => (lhs; whnf))); exact EvP.nil
    simp only [aFill, List.getElem?_cons_zero, List.getElem?_cons_succ, AV.cells, List.length_cons, List.length_nil, AV.flat, AV.one, setL, List.set_cons_zero, List.set_cons_succ, Nat.reduceAdd, Nat.reduceLeDiff, Nat.reduceMul, and_self, if_true, ↓reduceIte, Nat.zero_add, Nat.le_refl, List.range, List.range.loop, List.map_cons, List.map_nil, Nat.zero_le]
    rfl; apply r_op; exact rfl; exact rfl; apply g_build; apply a_build; apply EvP.cons (by (conv => (lhs; whnf))); exact EvP.nil
    simp only [aFill, List.getElem?_cons_zero, List.getElem?_cons_succ, AV.cells, List.length_cons, List.length_nil, AV.flat, AV.one, setL, List.set_cons_zero, List.set_cons_succ, Nat.reduceAdd, Nat.reduceLeDiff, Nat.reduceMul, and_self, if_true, ↓reduceIte, Nat.zero_add, Nat.le_refl, List.range, List.range.loop, List.map_cons, List.map_nil, Nat.zero_le]
    rfl; apply r_box; exact rfl; exact rfl; decide; exact rfl; (conv => (lhs; whnf)); exact rfl; (conv => (lhs; whnf)); intro b1 hb1; apply r_op; exact rfl; exact rfl; apply a_assign; (conv => (lhs; whnf)); (with_reducible refine runs_done ?_); refine W.seq ?_; refine W.seq ?_; refine W.regionL (by decide +kernel) rfl ?_; apply r_op; exact rfl; exact rfl; apply a_move; (conv => (lhs; whnf))
    (with_reducible refine runs_done ?_); refine W.block ?_; refine W.seq ?_; refine W.regionL (by decide +kernel) rfl ?_; apply r_op; exact rfl; exact rfl; apply g_binOp; exact a_binI rfl rfl rfl; apply r_op; exact rfl; exact rfl; apply a_assign; (conv => (lhs; whnf)); (with_reducible refine runs_done ?_); refine W.condF rfl (by exact rfl) ?_; refine W.seq ?_
    refine W.regionL (by decide +kernel) rfl ?_; apply r_op; exact rfl; exact rfl; apply g_binOp; exact a_binI rfl rfl rfl; apply r_op; exact rfl; exact rfl; apply a_assign; (conv => (lhs; whnf)); (with_reducible refine runs_done ?_); refine W.condF rfl (by exact rfl) ?_; refine W.seq ?_; refine W.regionL (by decide +kernel) rfl ?_; apply r_op; exact rfl; exact rfl; apply g_binOp
    exact a_binI rfl rfl rfl; apply r_op; exact rfl; exact rfl; apply a_assign; (conv => (lhs; whnf)); (with_reducible refine runs_done ?_); refine W.condT rfl (by exact rfl) ?_; refine W.seq ?_; refine W.regionL (by decide +kernel) rfl ?_; apply r_op; exact rfl; exact rfl; apply a_move; (conv => (lhs; whnf)); apply r_callS; exact rfl; exact rfl; decide; exact rfl; exact rfl; exact rfl
    infer_instance; exact rt w0 _ _ _ (by decide) t1 (by exact setBox_same); apply r_op; exact rfl; exact rfl; apply a_move; (conv => (lhs; whnf)); apply r_callS; exact rfl; exact rfl; decide; exact rfl; exact rfl; exact rfl; infer_instance; exact rt w0 _ _ _ (by decide) t2 (by exact setBox_same); apply r_op; exact rfl; exact rfl; apply a_move; (conv => (lhs; whnf)); apply r_callS; exact rfl
    exact rfl; decide; exact rfl; exact rfl; exact rfl; infer_instance; exact rt w0 _ _ _ (by decide) t3 (by exact setBox_same); apply r_op; exact rfl; exact rfl; apply g_fieldAddr; exact a_fieldAddrP rfl (by decide); apply r_store; exact rfl; exact rfl; exact rfl; decide; infer_instance; exact rfl; apply hb_ne (by exact ne_none' (by assumption)); apply hb_ne (by exact ne_none' (by assumption))
    apply hb_ne (by exact ne_none' (by assumption)); apply hb_ne (by exact ne_none' (by assumption)); exact setBox_same; (conv => (lhs; whnf)); exact rfl; (conv => (lhs; whnf)); exact rfl; exact of_decide_eq_true rfl; exact rfl; apply r_op; exact rfl; exact rfl; apply g_fieldAddr; exact a_fieldAddrP rfl (by decide); apply r_store; exact rfl; exact rfl; exact rfl; decide; infer_instance; exact rfl
    exact setBox_same; (conv => (lhs; whnf)); exact rfl; (conv => (lhs; whnf)); exact rfl; exact of_decide_eq_true rfl; exact rfl; apply r_op; exact rfl; exact rfl; apply g_fieldAddr; exact a_fieldAddrP rfl (by decide); apply r_store; exact rfl; exact rfl; exact rfl; decide; infer_instance; exact rfl; exact setBox_same; (conv => (lhs; whnf)); exact rfl; (conv => (lhs; whnf)); exact rfl
    exact of_decide_eq_true rfl; exact rfl; (with_reducible refine runs_done ?_); refine W.regionL (by decide +kernel) rfl ?_; apply r_op; exact rfl; exact rfl; apply a_move; (conv => (lhs; whnf)); apply r_callS; exact rfl; exact rfl; decide; exact rfl; exact rfl; exact rfl; infer_instance
    exact rn w0 _ _ _ (by decide) n1 (by apply hb_ne (by exact ne_none (by assumption)); apply hb_ne (by exact ne_none (by assumption)); apply hb_ne (by exact ne_none (by assumption)); exact setBox_same); apply r_op; exact rfl; exact rfl; apply a_move; (conv => (lhs; whnf)); apply r_callS; exact rfl; exact rfl; decide; exact rfl; exact rfl; exact rfl; infer_instance
    exact rn w0 _ _ _ (by decide) n2 (by exact setBox_same); apply r_op; exact rfl; exact rfl; apply a_move; (conv => (lhs; whnf)); apply r_callS; exact rfl; exact rfl; decide; exact rfl; exact rfl; exact rfl; infer_instance; exact rn w0 _ _ _ (by decide) n3 (by exact setBox_same); apply r_op; exact rfl; exact rfl; apply a_move; (conv => (lhs; whnf)); apply r_callS; exact rfl; exact rfl; decide
    exact rfl; exact rfl; exact rfl; infer_instance; exact rt w0 _ _ _ (by decide) t4 (by exact setBox_same); apply r_op; exact rfl; exact rfl; apply g_fieldAddr; exact a_fieldAddrP rfl (by decide); apply r_store; exact rfl; exact rfl; exact rfl; decide; infer_instance; exact rfl; apply hb_ne (by exact ne_none' (by assumption)); apply hb_ne (by exact ne_none' (by assumption))
    apply hb_ne (by exact ne_none' (by assumption)); apply hb_ne (by exact ne_none' (by assumption)); exact setBox_same; (conv => (lhs; whnf)); exact rfl; (conv => (lhs; whnf)); exact rfl; exact of_decide_eq_true rfl; exact rfl; apply r_op; exact rfl; exact rfl; apply g_fieldAddr; exact a_fieldAddrP rfl (by decide); apply r_store; exact rfl; exact rfl; exact rfl; decide; infer_instance; exact rfl
    exact setBox_same; (conv => (lhs; whnf)); exact rfl; (conv => (lhs; whnf)); exact rfl; exact of_decide_eq_true rfl; exact rfl; apply r_op; exact rfl; exact rfl; apply g_fieldAddr; exact a_fieldAddrP rfl (by decide); apply r_store; exact rfl; exact rfl; exact rfl; decide; infer_instance; exact rfl; exact setBox_same; (conv => (lhs; whnf)); exact rfl; (conv => (lhs; whnf)); exact rfl
    exact of_decide_eq_true rfl; exact rfl; apply r_op; exact rfl; exact rfl; apply g_fieldAddr; exact a_fieldAddrP rfl (by decide); apply r_store; exact rfl; exact rfl; exact rfl; decide; infer_instance; exact rfl; exact setBox_same; (conv => (lhs; whnf)); exact rfl; (conv => (lhs; whnf)); exact rfl; exact of_decide_eq_true rfl; exact rfl; (with_reducible refine runs_done ?_)
    refine W.regionDK 1 [53, 54, 55] Ty.mixed (by decide +kernel) (by decide +kernel) rfl ?_; apply r_op; exact rfl; exact rfl; apply a_move; (conv => (lhs; whnf)); apply r_op; exact rfl; exact rfl; apply a_move; (conv => (lhs; whnf)); apply r_op; exact rfl; exact rfl; apply a_move; (conv => (lhs; whnf)); apply r_op; exact rfl; exact rfl
    apply g_binOp; exact a_binI rfl rfl rfl; apply r_op; exact rfl; exact rfl; apply a_move; (conv => (lhs; whnf)); apply q_skip; exact rfl; exact want_f rfl rfl rfl (by exact rfl); apply q_skip; exact rfl; exact want_f rfl rfl rfl (by exact rfl); apply q_skip; exact rfl; exact want_f rfl rfl rfl (by exact rfl); apply q_skip; exact rfl; exact want_f rfl rfl rfl (by exact rfl); apply q_skip
    exact rfl; exact want_f rfl rfl rfl (by exact rfl); apply q_skip; exact rfl; exact want_f rfl rfl rfl (by exact rfl); apply q_skip; exact rfl; exact want_f rfl rfl rfl (by exact rfl); apply q_skip; exact rfl; exact want_f rfl rfl rfl (by exact rfl); apply q_skip; exact rfl; exact want_f rfl rfl rfl (by exact rfl); apply r_op; exact rfl; exact rfl; apply g_pick; apply a_pickT rfl (by exact rfl)
    (conv => (lhs; whnf)); apply r_op; exact rfl; exact rfl; apply g_pick; apply a_pickT rfl (by exact rfl); (conv => (lhs; whnf)); apply r_op; exact rfl; exact rfl; apply a_move; (conv => (lhs; whnf)); apply r_op; exact rfl; exact rfl; apply a_move; (conv => (lhs; whnf)); apply r_op; exact rfl; exact rfl; apply g_nilCheck; exact a_nilCheck rfl rfl; apply r_op; exact rfl; exact rfl
    apply g_fieldAddr; exact a_fieldAddrP rfl (by decide); apply r_load; exact rfl; exact rfl; exact rfl; decide; exact rfl; apply hb_ne (by exact ne_none (by assumption)); apply hb_ne (by exact ne_none (by assumption)); apply hb_ne (by exact ne_none (by assumption)); apply hb_ne (by exact ne_none (by assumption)); exact setBox_same; exact aLoad1 rfl; apply r_op; exact rfl; exact rfl; apply g_binOp
    exact a_nilI rfl rfl (by exact .inl rfl) rfl rfl rfl; apply r_op; exact rfl; exact rfl; apply g_pick; apply a_pickT rfl (by exact rfl); (conv => (lhs; whnf)); apply r_op; exact rfl; exact rfl; apply a_assign; (conv => (lhs; whnf)); (with_reducible refine runs_done ?_); refine W.regionL (by decide +kernel) rfl ?_; apply r_op; exact rfl; exact rfl; apply g_binOp; exact a_add64 rfl rfl (by omega)
    apply r_op; exact rfl; exact rfl; apply a_move; (conv => (lhs; whnf)); (with_reducible refine runs_done ?_)
    exact ⟨0, by decide, .inr ⟨rfl, by repeat (first | exact setBox_same | apply hb_ne (by first | assumption | exact ne_none' (by first | assumption | exact none_in (by assumption) | exact none_in (none_in (by assumption)) | exact none_in (none_in (none_in (by assumption))) | exact none_in (none_in (none_in (none_in (by assumption)))) | exact none_in (none_in (none_in (none_in (none_in (by assumption))))) | exact none_in (none_in (none_in (none_in (none_in (none_in (by assumption)))))) | exact none_in (none_in (none_in (none_in (none_in (none_in (none_in (by assumption))))))) | exact none_in (none_in (none_in (none_in (none_in (none_in (none_in (none_in (by assumption)))))))) | fail) | exact ne_none (by first | assumption | exact none_in (by assumption) | exact none_in (none_in (by assumption)) | exact none_in (none_in (none_in (by assumption))) | exact none_in (none_in (none_in (none_in (by assumption)))) | exact none_in (none_in (none_in (none_in (none_in (by assumption))))) | exact none_in (none_in (none_in (none_in (none_in (none_in (by assumption)))))) | exact none_in (none_in (none_in (none_in (none_in (none_in (none_in (by assumption))))))) | exact none_in (none_in (none_in (none_in (none_in (none_in (none_in (none_in (by assumption)))))))) | fail) | fail)), setBox_same, by repeat (first | assumption | exact .refl _ | refine le_setBox ?_ (by first | assumption | exact none_in (by assumption) | exact none_in (none_in (by assumption)) | exact none_in (none_in (none_in (by assumption))) | exact none_in (none_in (none_in (none_in (by assumption)))) | exact none_in (none_in (none_in (none_in (none_in (by assumption))))) | exact none_in (none_in (none_in (none_in (none_in (none_in (by assumption)))))) | exact none_in (none_in (none_in (none_in (none_in (none_in (none_in (by assumption))))))) | exact none_in (none_in (none_in (none_in (none_in (none_in (none_in (none_in (by assumption)))))))) | fail)), by exact Has.by (by repeat (first | exact trivial | refine ⟨by first | trivial | exact Weak.refl _ | exact Weak.tok _ _ _ | exact Weak.of_eq (congrArg (AV.int _) (by omega)) | exact Weak.nils _ _ (.inr rfl), ?_⟩))⟩⟩
  · refine W.has hE ?_
    clear hE
    unfold z27 at h2
    unfold x27 at h4
    refine W.seq ?_; refine W.regionL (by decide +kernel) rfl ?_; apply r_op; exact rfl; exact rfl; apply g_binOp; exact a_binI rfl rfl rfl; (with_reducible refine runs_done ?_); refine W.seq ?_; refine W.condF rfl (by exact rfl) ?_; refine W.exit ?_; show W _ _ _ _ _ _ _; refine W.seq ?_; refine W.regionL (by decide +kernel) rfl ?_; apply r_op; exact rfl; exact rfl; apply g_fieldAddr
    exact a_fieldAddrP rfl (by decide); apply r_load; exact rfl; exact rfl; exact rfl; decide; exact rfl; assumption; exact aLoad1 rfl; apply r_op; exact rfl; exact rfl; apply a_assign; (conv => (lhs; whnf)); (with_reducible refine runs_done ?_); refine W.seq ?_; refine W.seq ?_; refine W.regionL (by decide +kernel) rfl ?_; apply r_op; exact rfl; exact rfl; apply a_move; (conv => (lhs; whnf))
    apply r_op; exact rfl; exact rfl; apply g_call; exact a_len_nils rfl; apply r_op; exact rfl; exact rfl; apply a_move; (conv => (lhs; whnf)); (with_reducible refine runs_done ?_); refine W.block ?_
    refine W.loop (fun k E s' => k = 0 ∧ s' = s ∧ Has [(0, .slc 2 [eRow row0] .no), (2, .ptr b2 0), (3, .int .u16 0), (4, .ptr b4 0), (6, .bool true), (123, .nils), (124, .int .i64 0), (125, .int .i64 0)] E) 0 ⟨rfl, rfl, by exact Has.by (by repeat (first | exact trivial | refine ⟨by first | trivial | exact Weak.refl _ | exact Weak.tok _ _ _ | exact Weak.of_eq (congrArg (AV.int _) (by omega)) | exact Weak.nils _ _ (.inr rfl), ?_⟩))⟩ ?_
    rintro k E s' ⟨rfl, rfl, hE⟩; refine W.has hE ?_; clear hE; refine W.seq ?_; refine W.regionL (by decide +kernel) rfl ?_; apply r_op; exact rfl; exact rfl; apply g_binOp; exact a_binI rfl rfl rfl; (with_reducible refine runs_done ?_); refine W.seq ?_; refine W.condF rfl (by exact rfl) ?_; refine W.exit ?_; show W _ _ _ _ _ _ _; refine W.seq ?_; refine W.regionL (by decide +kernel) rfl ?_
    apply r_op; exact rfl; exact rfl; apply a_assign; (conv => (lhs; whnf)); (with_reducible refine runs_done ?_); refine W.seq ?_; refine W.seq ?_; refine W.regionL (by decide +kernel) rfl ?_; apply r_op; exact rfl; exact rfl; apply a_move; (conv => (lhs; whnf)); apply r_op; exact rfl; exact rfl; apply g_unOp; exact a_not rfl; apply r_op; exact rfl; exact rfl; apply a_move; (conv => (lhs; whnf))
    apply r_load; exact rfl; exact rfl; exact rfl; decide; exact rfl; assumption; exact aLoadA rfl (by rfl) rfl; apply r_callP; exact rfl; exact rfl; exact rfl; exact rfl; exact rfl; infer_instance; exact hen; apply r_op; exact rfl; exact rfl; apply a_move; (conv => (lhs; whnf)); apply r_op; exact rfl; exact rfl; apply a_move; (conv => (lhs; whnf)); apply r_callP; exact rfl; exact rfl; exact rfl
    exact rfl; exact rfl; infer_instance; exact heq; apply r_op; exact rfl; exact rfl; apply g_unOp; exact a_not rfl; apply r_op; exact rfl; exact rfl; apply g_pick; apply a_pickF rfl (by exact rfl); (conv => (lhs; whnf)); (with_reducible refine runs_done ?_); refine W.condF rfl (by exact rfl) ?_; refine W.skip ?_; show W _ _ _ _ _ _ _; refine W.seq ?_; refine W.regionL (by decide +kernel) rfl ?_
    apply r_load; exact rfl; exact rfl; exact rfl; decide; exact rfl; assumption; exact aLoadA rfl (by rfl) rfl; apply r_store; exact rfl; exact rfl; exact rfl; decide; infer_instance; exact rfl; assumption; (conv => (lhs; whnf)); exact rfl; (conv => (lhs; whnf)); exact rfl; exact of_decide_eq_true rfl; exact setL_whole rfl; apply r_op; exact rfl; exact rfl; apply a_assign; (conv => (lhs; whnf))
    (with_reducible refine runs_done ?_); refine W.ret ?_; show Q Exit.ret _ _; refine post_q hQ (by apply res_cell; exact rfl; exact setBox_same; exact aLoadA rfl (by rfl) rfl; apply res_tmp; exact rfl; exact res_nil) (.inl rfl) (by refine le_setBox ?_ (by assumption); assumption) ?_; (conv => (lhs; whnf)); rfl
end Go.Proofs.YtkbmkhhcppfcnaaGreatDoor
end
section
set_option linter.unusedVariables false
set_option linter.unusedSimpArgs false
set_option maxRecDepth 100000
set_option maxHeartbeats 2000000
namespace Go.Proofs.YtkbmkhhcppfcnaaGreatDoor
open Go.Al Go.RowKit
theorem dec_nil (w0 : Base) (hL : Laid w0) : CallP Tryz.prog w0 15 [.nils] (.tup [zA, .int .u16 11]) := by
  refine CallP.start Tryz.func15 rfl Tryz.ntmps15 (by simp) fun σ Q hQ => ?_
  have hen := enc_zA w0 hL
  have heq : CallP Tryz.prog w0 45 [.slc 2 ((enc3 z0).map eRow) .no, .nils, .fn (.func 56) [] []] (.bool false) := fun σ => by
    have := eqRows_any w0 (enc3 z0) [] .no .no (by simp [enc3, z0])  σ
    rw [show decide (enc3 z0 = []) = false by simp [enc3]] at this
    exact CallW.weak1 [_] [_] (.nils 2 .no (.inl rfl)) this
  refine W.seq ?_; refine W.regionL (by decide +kernel) rfl ?_; apply r_alloc; exact rfl; exact rfl; decide; exact rfl; (conv => (lhs; whnf)); intro b1 hb1; apply r_op; exact rfl; exact rfl; apply a_assign; (conv => (lhs; whnf)); (with_reducible refine runs_done ?_); refine W.seq ?_; refine W.regionL (by decide +kernel) rfl ?_; apply r_alloc; exact rfl; exact rfl; decide; exact rfl
  (conv => (lhs; whnf)); intro b1 hb1; (with_reducible refine runs_done ?_); refine W.seq ?_; refine W.regionL (by decide +kernel) rfl ?_; apply r_op; exact rfl; exact rfl; apply a_assign; (conv => (lhs; whnf)); (with_reducible refine runs_done ?_); refine W.seq ?_; refine W.regionL (by decide +kernel) rfl ?_; apply r_op; exact rfl; exact rfl; apply a_assign; (conv => (lhs; whnf))
  (with_reducible refine runs_done ?_); refine W.seq ?_; refine W.seq ?_; refine W.regionL (by decide +kernel) rfl ?_; apply r_op; exact rfl; exact rfl; apply a_move; (conv => (lhs; whnf)); apply r_op; exact rfl; exact rfl; apply g_call; exact a_len_nils rfl; apply r_op; exact rfl; exact rfl; apply a_move; (conv => (lhs; whnf)); (with_reducible refine runs_done ?_); refine W.block ?_
  rename_i b2 hb2
  have hne : b2 ≠ b1 := ne_none' hb1
  have hs4 : σ.box b1 = none := none_in hb1
  generalize b1 = b4 at hne hs4 hb1 ⊢
  refine W.loop (fun k E s => k = 0 ∧ s.box b2 = some z27 ∧ s.box b4 = some z27 ∧ St.Le σ s ∧ Has [(0, .nils), (2, .ptr b2 0), (3, .int .u16 0), (4, .ptr b4 0), (5, .nils), (6, .bool true), (20, .nils), (21, .int .i64 0), (22, .int .i64 0)] E) 0 ⟨rfl, by repeat (first | exact setBox_same | apply hb_ne (by first | assumption | exact ne_none' (by first | assumption | exact none_in (by assumption) | exact none_in (none_in (by assumption)) | exact none_in (none_in (none_in (by assumption))) | exact none_in (none_in (none_in (none_in (by assumption)))) | exact none_in (none_in (none_in (none_in (none_in (by assumption))))) | exact none_in (none_in (none_in (none_in (none_in (none_in (by assumption)))))) | exact none_in (none_in (none_in (none_in (none_in (none_in (none_in (by assumption))))))) | exact none_in (none_in (none_in (none_in (none_in (none_in (none_in (none_in (by assumption)))))))) | fail) | exact ne_none (by first | assumption | exact none_in (by assumption) | exact none_in (none_in (by assumption)) | exact none_in (none_in (none_in (by assumption))) | exact none_in (none_in (none_in (none_in (by assumption)))) | exact none_in (none_in (none_in (none_in (none_in (by assumption))))) | exact none_in (none_in (none_in (none_in (none_in (none_in (by assumption)))))) | exact none_in (none_in (none_in (none_in (none_in (none_in (none_in (by assumption))))))) | exact none_in (none_in (none_in (none_in (none_in (none_in (none_in (none_in (by assumption)))))))) | fail) | fail)), setBox_same, by repeat (first | assumption | exact .refl _ | refine le_setBox ?_ (by first | assumption | exact none_in (by assumption) | exact none_in (none_in (by assumption)) | exact none_in (none_in (none_in (by assumption))) | exact none_in (none_in (none_in (none_in (by assumption)))) | exact none_in (none_in (none_in (none_in (none_in (by assumption))))) | exact none_in (none_in (none_in (none_in (none_in (none_in (by assumption)))))) | exact none_in (none_in (none_in (none_in (none_in (none_in (none_in (by assumption))))))) | exact none_in (none_in (none_in (none_in (none_in (none_in (none_in (none_in (by assumption)))))))) | fail)), by exact Has.by (by repeat (first | exact trivial | refine ⟨by first | trivial | exact Weak.refl _ | exact Weak.tok _ _ _ | exact Weak.of_eq (congrArg (AV.int _) (by omega)) | exact Weak.nils _ _ (.inr rfl), ?_⟩))⟩ ?_
  rintro k E s ⟨rfl, h2, h4, hle, hE⟩; refine W.has hE ?_; clear hE
  unfold z27 at h2 h4
  refine W.seq ?_; refine W.regionL (by decide +kernel) rfl ?_; apply r_op; exact rfl; exact rfl; apply g_binOp; exact a_binI rfl rfl rfl; (with_reducible refine runs_done ?_); refine W.seq ?_; refine W.condF rfl (by exact rfl) ?_; refine W.exit ?_; show W _ _ _ _ _ _ _; refine W.seq ?_; refine W.regionL (by decide +kernel) rfl ?_; apply r_op; exact rfl; exact rfl; apply g_fieldAddr
  exact a_fieldAddrP rfl (by decide); apply r_load; exact rfl; exact rfl; exact rfl; decide; exact rfl; assumption; exact aLoad1 rfl; apply r_op; exact rfl; exact rfl; apply a_assign; (conv => (lhs; whnf)); (with_reducible refine runs_done ?_); refine W.seq ?_; refine W.seq ?_; refine W.regionL (by decide +kernel) rfl ?_; apply r_op; exact rfl; exact rfl; apply a_move; (conv => (lhs; whnf))
  apply r_op; exact rfl; exact rfl; apply g_call; exact a_len_nils rfl; apply r_op; exact rfl; exact rfl; apply a_move; (conv => (lhs; whnf)); (with_reducible refine runs_done ?_); refine W.block ?_
  refine W.loop (fun k E s' => k = 0 ∧ s' = s ∧ Has [(0, .nils), (2, .ptr b2 0), (3, .int .u16 0), (4, .ptr b4 0), (6, .bool true), (123, .nils), (124, .int .i64 0), (125, .int .i64 0)] E) 0 ⟨rfl, rfl, by exact Has.by (by repeat (first | exact trivial | refine ⟨by first | trivial | exact Weak.refl _ | exact Weak.tok _ _ _ | exact Weak.of_eq (congrArg (AV.int _) (by omega)) | exact Weak.nils _ _ (.inr rfl), ?_⟩))⟩ ?_
  rintro k E s' ⟨rfl, rfl, hE⟩; refine W.has hE ?_; clear hE; refine W.seq ?_; refine W.regionL (by decide +kernel) rfl ?_; apply r_op; exact rfl; exact rfl; apply g_binOp; exact a_binI rfl rfl rfl; (with_reducible refine runs_done ?_); refine W.seq ?_; refine W.condF rfl (by exact rfl) ?_; refine W.exit ?_; show W _ _ _ _ _ _ _; refine W.seq ?_; refine W.regionL (by decide +kernel) rfl ?_
  apply r_op; exact rfl; exact rfl; apply a_assign; (conv => (lhs; whnf)); (with_reducible refine runs_done ?_); refine W.seq ?_; refine W.seq ?_; refine W.regionL (by decide +kernel) rfl ?_; apply r_op; exact rfl; exact rfl; apply a_move; (conv => (lhs; whnf)); apply r_op; exact rfl; exact rfl; apply g_unOp; exact a_not rfl; apply r_op; exact rfl; exact rfl; apply a_move; (conv => (lhs; whnf))
  apply r_load; exact rfl; exact rfl; exact rfl; decide; exact rfl; assumption; exact aLoadA rfl (by rfl) rfl; apply r_callP; exact rfl; exact rfl; exact rfl; exact rfl; exact rfl; infer_instance; exact hen; apply r_op; exact rfl; exact rfl; apply a_move; (conv => (lhs; whnf)); apply r_op; exact rfl; exact rfl; apply a_move; (conv => (lhs; whnf)); apply r_callP; exact rfl; exact rfl; exact rfl
  exact rfl; exact rfl; infer_instance; exact heq; apply r_op; exact rfl; exact rfl; apply g_unOp; exact a_not rfl; apply r_op; exact rfl; exact rfl; apply g_pick; apply a_pickF rfl (by exact rfl); (conv => (lhs; whnf)); (with_reducible refine runs_done ?_); refine W.condT rfl (by exact rfl) ?_; refine W.seq ?_; refine W.regionL (by decide +kernel) rfl ?_; apply r_op; exact rfl; exact rfl
  apply g_build; apply a_build; exact EvP.nil
  simp only [aFill, List.getElem?_cons_zero, List.getElem?_cons_succ, AV.cells, List.length_cons, List.length_nil, AV.flat, AV.one, setL, List.set_cons_zero, List.set_cons_succ, Nat.reduceAdd, Nat.reduceLeDiff, Nat.reduceMul, and_self, if_true, ↓reduceIte, Nat.zero_add, Nat.le_refl, List.range, List.range.loop, List.map_cons, List.map_nil, Nat.zero_le]
  rfl; apply r_store; exact rfl; exact rfl; exact rfl; decide; infer_instance; exact rfl; assumption; (conv => (lhs; whnf)); exact rfl; (conv => (lhs; whnf)); exact rfl; exact of_decide_eq_true rfl; exact setL_whole rfl; apply r_op; exact rfl; exact rfl; apply a_assign; (conv => (lhs; whnf)); (with_reducible refine runs_done ?_); refine W.ret ?_; show Q Exit.ret _ _
  refine post_q hQ (by apply res_cell; exact rfl; exact setBox_same; exact aLoadA rfl (by rfl) rfl; apply res_tmp; exact rfl; exact res_nil) (.inl rfl) (by refine le_setBox ?_ (by assumption); assumption) ?_; (conv => (lhs; whnf)); rfl
theorem known_any (w0 : Base) (hL : Laid w0) : CallP Tryz.prog w0 17 [] (.bool true) := by
  refine CallP.start Tryz.func17 rfl Tryz.ntmps17 (by simp) fun σ Q hQ => ?_
  refine W.seq ?_; refine W.regionL (by decide +kernel) rfl ?_; apply r_op; exact rfl; exact rfl; apply a_assign; (conv => (lhs; whnf)); (with_reducible refine runs_done ?_); refine W.seq ?_; refine W.regionL (by decide +kernel) rfl ?_; apply r_op; exact rfl; exact rfl; apply g_build; apply a_build; apply EvP.cons (by (conv => (lhs; whnf))); apply EvP.cons (by (conv => (lhs; whnf)))
  apply EvP.cons (by (conv => (lhs; whnf))); apply EvP.cons (by (conv => (lhs; whnf))); apply EvP.cons (by (conv => (lhs; whnf))); exact EvP.nil
  simp only [aFill, List.getElem?_cons_zero, List.getElem?_cons_succ, AV.cells, List.length_cons, List.length_nil, AV.flat, AV.one, setL, List.set_cons_zero, List.set_cons_succ, Nat.reduceAdd, Nat.reduceLeDiff, Nat.reduceMul, and_self, if_true, ↓reduceIte, Nat.zero_add, Nat.le_refl, List.range, List.range.loop, List.map_cons, List.map_nil, Nat.zero_le]
  rfl; apply r_callP; exact rfl; exact rfl; exact rfl; exact rfl; exact rfl; infer_instance; exact enc_xA w0 hL; apply r_op; exact rfl; exact rfl; apply a_assign; (conv => (lhs; whnf)); (with_reducible refine runs_done ?_); refine W.seq ?_; refine W.regionL (by decide +kernel) rfl ?_; apply r_op; exact rfl; exact rfl; apply a_move; (conv => (lhs; whnf)); apply r_callP; exact rfl; exact rfl; exact rfl
  exact rfl; exact rfl; infer_instance; exact dec_known w0 hL; apply r_op; exact rfl; exact rfl; apply a_move; (conv => (lhs; whnf)); apply r_op; exact rfl; exact rfl; apply g_extract; exact a_extract rfl rfl; apply r_op; exact rfl; exact rfl; apply g_extract; exact a_extract rfl rfl; apply r_alloc; exact rfl; exact rfl; decide; exact rfl; (conv => (lhs; whnf)); intro b1 hb1; apply r_store
  exact rfl; exact rfl; exact rfl; decide; infer_instance; exact rfl; exact setBox_same; (conv => (lhs; whnf)); exact rfl; (conv => (lhs; whnf)); exact rfl; exact of_decide_eq_true rfl; exact setL_whole rfl; apply r_op; exact rfl; exact rfl; apply a_assign; (conv => (lhs; whnf)); (with_reducible refine runs_done ?_); refine W.seq ?_; refine W.regionL (by decide +kernel) rfl ?_; apply r_callP
  exact rfl; exact rfl; exact rfl; exact rfl; exact rfl; infer_instance; exact dec_nil w0 hL; apply r_op; exact rfl; exact rfl; apply a_move; (conv => (lhs; whnf)); apply r_op; exact rfl; exact rfl; apply g_extract; exact a_extract rfl rfl; apply r_op; exact rfl; exact rfl; apply g_extract; exact a_extract rfl rfl; apply r_alloc; exact rfl; exact rfl; decide; exact rfl; (conv => (lhs; whnf))
  intro b1 hb1; apply r_store; exact rfl; exact rfl; exact rfl; decide; infer_instance; exact rfl; exact setBox_same; (conv => (lhs; whnf)); exact rfl; (conv => (lhs; whnf)); exact rfl; exact of_decide_eq_true rfl; exact setL_whole rfl; apply r_op; exact rfl; exact rfl; apply a_assign; (conv => (lhs; whnf)); (with_reducible refine runs_done ?_); refine W.seq ?_
  refine W.regionL (by decide +kernel) rfl ?_; apply r_op; exact rfl; exact rfl; apply a_move; (conv => (lhs; whnf)); apply r_op; exact rfl; exact rfl; apply g_call; exact a_len_slc rfl; apply r_op; exact rfl; exact rfl; apply g_binOp; exact a_binI rfl rfl rfl; apply r_op; exact rfl; exact rfl; apply a_move; (conv => (lhs; whnf)); apply r_op; exact rfl; exact rfl; apply a_move
  (conv => (lhs; whnf)); apply r_op; exact rfl; exact rfl; apply g_binOp; exact a_binI rfl rfl rfl; apply r_op; exact rfl; exact rfl; apply g_pick; apply a_pickT rfl (by exact rfl); (conv => (lhs; whnf)); apply r_op; exact rfl; exact rfl; apply a_move; (conv => (lhs; whnf)); apply r_op; exact rfl; exact rfl; apply g_fieldAddr; exact a_fieldAddrP rfl (by decide); apply r_load; exact rfl; exact rfl
  exact rfl; decide; exact rfl; apply hb_ne (by exact ne_none' (by assumption)); apply hb_ne (by exact ne_none' (by assumption)); exact setBox_same; exact aLoad1 rfl; apply r_op; exact rfl; exact rfl; apply g_binOp; exact a_binI rfl rfl rfl; apply r_op; exact rfl; exact rfl; apply g_pick; apply a_pickT rfl (by exact rfl); (conv => (lhs; whnf)); apply r_op; exact rfl; exact rfl; apply a_move
  (conv => (lhs; whnf)); apply r_op; exact rfl; exact rfl; apply g_fieldAddr; exact a_fieldAddrP rfl (by decide); apply r_load; exact rfl; exact rfl; exact rfl; decide; exact rfl; apply hb_ne (by exact ne_none' (by assumption)); apply hb_ne (by exact ne_none' (by assumption)); exact setBox_same; exact aLoad1 rfl; apply r_op; exact rfl; exact rfl; apply g_binOp; exact a_binS rfl rfl rfl rfl
  apply r_op; exact rfl; exact rfl; apply g_pick; apply a_pickT rfl (by exact rfl); (conv => (lhs; whnf)); apply r_op; exact rfl; exact rfl; apply a_move; (conv => (lhs; whnf)); apply r_op; exact rfl; exact rfl; apply a_move; (conv => (lhs; whnf)); apply r_op; exact rfl; exact rfl; apply g_binOp; exact a_binI rfl rfl rfl; apply r_op; exact rfl; exact rfl; apply g_pick
  apply a_pickT rfl (by exact rfl); (conv => (lhs; whnf)); apply r_op; exact rfl; exact rfl; apply a_assign; (conv => (lhs; whnf)); (with_reducible refine runs_done ?_); refine W.ret ?_; show Q Exit.ret _ _
  refine post_q hQ (by apply res_tmp; exact rfl; exact res_nil) (.inl rfl) (by refine le_setBox ?_ (by exact none_in (none_in (by assumption))); refine le_setBox ?_ (by exact none_in (none_in (by assumption))); refine le_setBox ?_ (by assumption); refine le_setBox ?_ (by assumption); exact .refl _) ?_
  (conv => (lhs; whnf)); rfl
end Go.Proofs.YtkbmkhhcppfcnaaGreatDoor
end
section
set_option linter.unusedVariables false
set_option linter.unusedSimpArgs false
set_option maxRecDepth 100000
set_option maxHeartbeats 4000000
namespace Go.Proofs.YtkbmkhhcppfcnaaGreatDoor
open Go.Al Go.RowKit
theorem rt_in (w0 : Base) {b : Nat} {S : St} {v : List UInt8} {a a' most : Nat} {f f' : Option Nat} {s : List UInt8} (h : rText v a f most = (s, a', f')) (hv : v.length ≤ 1000000) (ha : a ≤ 1000000) (hm : most ≤ 1000000) :
    CallW Tryz.prog w0 55 [.ptr b 0, .int .i64 most] (S.setBox b (rd v a f)) (fun r s' => r = .str s ∧ s' = S.setBox b (rd v a' f')) := by
  have := rtext_any w0 v a most f b (S.setBox b (rd v a f)) hv ha hm setBox_same
  rw [h, setBox_setBox] at this
  exact this
theorem rn_in (w0 : Base) {b : Nat} {S : St} {v : List UInt8} {a a' n : Nat} {f f' : Option Nat} (h : rNum v a f = (n, a', f')) (hv : v.length ≤ 1000000) (ha : a ≤ 1000000) :
    CallW Tryz.prog w0 53 [.ptr b 0] (S.setBox b (rd v a f)) (fun r s' => r = .int .i64 n ∧ s' = S.setBox b (rd v a' f')) := by
  have := rnum_any w0 v a f b (S.setBox b (rd v a f)) hv ha setBox_same
  rw [h, setBox_setBox] at this
  exact this
theorem rt_to {v : List UInt8} {a : Nat} (f : Option Nat) (most : Nat) (hv : v.length ≤ 1000000) (ha : a ≤ 1000000) : ∃ s a' f', rText v a f most = (s, a', f') ∧ a' ≤ 1000000 :=
  ⟨(rText v a f most).1, (rText v a f most).2.1, (rText v a f most).2.2, rfl, by have := rText_far v a f most; omega⟩
theorem rn_to {v : List UInt8} {a : Nat} (f : Option Nat) (hv : v.length ≤ 1000000) (ha : a ≤ 1000000) : ∃ n a' f', rNum v a f = (n, a', f') ∧ a' ≤ 1000000 :=
  ⟨(rNum v a f).1, (rNum v a f).2.1, (rNum v a f).2.2, rfl, by have := rNum_far v a f; omega⟩
theorem message_any (w0 : Base) {b : Nat} {S : St} {v : List UInt8} {a : Nat} {f : Option Nat} (seq : Int) (hv : v.length ≤ 1000000) (ha : a ≤ 1000000) :
    CallW Tryz.prog w0 54 [.int .i64 seq, .ptr b 0] (S.setBox b (rd v a f)) (fun r s => r = eMsg (rMsg seq v a f).1 ∧ s = S.setBox b (rd v (rMsg seq v a f).2.1 (rMsg seq v a f).2.2)) := by
  refine CallW.start Tryz.func54 rfl Tryz.ntmps54 (by simp) fun Q hQ => ?_
  obtain ⟨s1, a1, f1, e1, k1⟩ := rt_to f 60 hv ha
  obtain ⟨s2, a2, f2, e2, k2⟩ := rt_to f1 30 hv k1
  obtain ⟨n3, a3, f3, e3, k3⟩ := rn_to f2 hv k2
  obtain ⟨n4, a4, f4, e4, k4⟩ := rn_to f3 hv k3
  obtain ⟨n5, a5, f5, e5, k5⟩ := rn_to f4 hv k4
  obtain ⟨n6, a6, f6, e6, k6⟩ := rn_to f5 hv k5
  have hr : rMsg seq v a f = (⟨seq, s1, s2, n3, n4, decide ((0 : Int) < (n6 : Int)), whyN (min n6 2), n5⟩, a6, f6) := by simp only [rMsg, e1, e2, e3, e4, e5, e6]
  rw [hr] at hQ
  clear hr
  obtain ⟨j, hj, hw⟩ : ∃ j : Nat, min (n6 : Int) 2 = (j : Nat) ∧ [AV.str [], AV.str [110, 97, 99, 107], AV.str [116, 105, 109, 101]][((j : Nat) : Int).toNat * 1]? = some (.str (whyN (min n6 2))) := by
    refine ⟨min n6 2, by omega, ?_⟩
    have : min n6 2 < 3 := by omega
    generalize min n6 2 = q at this
    match q, this with
    | 0, _ => rfl
    | 1, _ => rfl
    | 2, _ => rfl
  have hjl : j ≤ 2 := by omega
  generalize whyN (min n6 2) = wy at hw hQ
  refine W.seq ?_; refine W.regionL (by decide +kernel) rfl ?_; apply r_alloc; exact rfl; exact rfl; decide; exact rfl; (conv => (lhs; whnf)); intro b1 hb1; refine runs_done ?_; show W _ _ _ _ _ _ _
  have hne : b1 ≠ b := ne_none hb1
  have hb4 : S.box b1 = none := none_in hb1
  rw [setBox_comm hne.symm]
  generalize b1 = b4 at *
  refine W.seq ?_; refine W.regionL (by decide +kernel) rfl ?_; apply r_op; exact rfl; exact rfl; apply a_move; (conv => (lhs; whnf)); apply r_op; exact rfl; exact rfl; apply a_move; (conv => (lhs; whnf)); apply r_callS; exact rfl; exact rfl; decide; exact rfl; exact rfl; exact rfl; infer_instance; exact rt_in w0 e1 hv ha (by decide); apply r_op; exact rfl; exact rfl; apply a_move
  (conv => (lhs; whnf)); apply r_callS; exact rfl; exact rfl; decide; exact rfl; exact rfl; exact rfl; infer_instance; exact rt_in w0 e2 hv k1 (by decide); apply r_op; exact rfl; exact rfl; apply a_move; (conv => (lhs; whnf)); apply r_callS; exact rfl; exact rfl; decide; exact rfl; exact rfl; exact rfl; infer_instance; exact rn_in w0 e3 hv k2; apply r_op; exact rfl; exact rfl; apply a_move
  (conv => (lhs; whnf)); apply r_callS; exact rfl; exact rfl; decide; exact rfl; exact rfl; exact rfl; infer_instance; exact rn_in w0 e4 hv k3; apply r_op; exact rfl; exact rfl; apply a_move; (conv => (lhs; whnf)); apply r_callS; exact rfl; exact rfl; decide; exact rfl; exact rfl; exact rfl; infer_instance; exact rn_in w0 e5 hv k4; apply r_op; exact rfl; exact rfl; apply g_build; apply a_build
  apply EvP.cons (by (conv => (lhs; whnf))); apply EvP.cons (by (conv => (lhs; whnf))); apply EvP.cons (by (conv => (lhs; whnf))); apply EvP.cons (by (conv => (lhs; whnf))); apply EvP.cons (by (conv => (lhs; whnf))); apply EvP.cons (by (conv => (lhs; whnf))); exact EvP.nil
  simp only [aFill, List.getElem?_cons_zero, List.getElem?_cons_succ, AV.cells, List.length_cons, List.length_nil, AV.flat, AV.one, setL, List.set_cons_zero, List.set_cons_succ, Nat.reduceAdd, Nat.reduceLeDiff, Nat.reduceMul, and_self, if_true, ↓reduceIte, Nat.zero_add, Nat.le_refl, List.range, List.range.loop, List.map_cons, List.map_nil, Nat.zero_le]
  rfl; apply r_alloc; exact rfl; exact rfl; decide; exact rfl; (conv => (lhs; whnf)); intro b1 hb1; apply r_store; exact rfl; exact rfl; exact rfl; decide; infer_instance; exact rfl; exact setBox_same; (conv => (lhs; whnf)); exact rfl; (conv => (lhs; whnf)); exact rfl; exact of_decide_eq_true rfl; exact setL_whole rfl; refine runs_done ?_; show W _ _ _ _ _ _ _
  have hne5 : b1 ≠ b := ne_none hb1
  have hb5' := none_in hb1
  have hne45 : b1 ≠ b4 := ne_none hb5'
  have hb5 : S.box b1 = none := none_in hb5'
  clear hb5'
  rw [setBox_setBox, setBox_comm hne5.symm]
  generalize b1 = b5 at *
  generalize hS2 : (S.setBox b4 _).setBox b5 _ = S2
  have h5 : S2.box b5 = some [.int .i64 seq, .str s1, .str s2, .int .i64 n3, .int .i64 n4, .bool false, .str [], .int .i64 n5] := by rw [← hS2]; exact setBox_same
  have h4 : S2.box b4 = some [.int .i64 0, .str [], .str [], .int .i64 0, .int .i64 0, .bool false, .str [], .int .i64 0] := by rw [← hS2]; exact hb_ne hne45.symm setBox_same
  have hle : St.Le (S.setBox b (rd v a6 f6)) (S2.setBox b (rd v a6 f6)) := by
    rw [← hS2, setBox_comm hne5, setBox_comm hne]
    exact le_setBox (le_setBox (.refl _) (by rw [setBox_ne hne]; exact hb4)) (by rw [setBox_ne hne5]; exact hb5)
  have h4n : (S.setBox b (rd v a6 f6)).box b4 = none := by rw [setBox_ne hne]; exact hb4
  have h5n : (S.setBox b (rd v a6 f6)).box b5 = none := by rw [setBox_ne hne5]; exact hb5
  have hn : ∀ c, (S2.setBox b (rd v a6 f6)).box c = none → (S.setBox b (rd v a6 f6)).box c = none := fun c hc => by
    cases hq : (S.setBox b (rd v a6 f6)).box c with
    | none => rfl
    | some cs => rw [hle.box c cs hq] at hc; cases hc
  clear hS2; refine W.seq ?_; refine W.regionL (by decide +kernel) rfl ?_; apply r_op; exact rfl; exact rfl; apply a_move; (conv => (lhs; whnf)); apply r_callS; exact rfl; exact rfl; decide; exact rfl; exact rfl; exact rfl; infer_instance; exact rn_in w0 e6 hv k5; apply r_op; exact rfl; exact rfl; apply a_assign; (conv => (lhs; whnf)); refine runs_done ?_; show W _ _ _ _ _ _ _; refine W.seq ?_
  refine W.regionL (by decide +kernel) rfl ?_; apply r_callP; exact rfl; exact rfl; exact rfl; exact rfl; exact rfl; infer_instance; exact whys_any w0; apply r_alloc; exact rfl; exact rfl; decide; exact rfl; (conv => (lhs; whnf)); intro b1 hb1; apply r_store; exact rfl; exact rfl; exact rfl; decide; infer_instance; exact rfl; exact setBox_same; (conv => (lhs; whnf)); exact rfl
  (conv => (lhs; whnf)); exact rfl; exact of_decide_eq_true rfl; exact setL_whole rfl; refine runs_done ?_; show W _ _ _ _ _ _ _; refine W.freeze1 7 (.agg [AV.str [], AV.str [110, 97, 99, 107], AV.str [116, 105, 109, 101]]) (by assumption) rfl rfl rfl ?_; clear hn
  generalize hS3 : S2.setBox b _ = S3 at hle ⊢
  have g5 : S3.box b5 = some [.int .i64 seq, .str s1, .str s2, .int .i64 n3, .int .i64 n4, .bool false, .str [], .int .i64 n5] := by rw [← hS3]; exact hb_ne hne5 h5
  have g4 : S3.box b4 = some [.int .i64 0, .str [], .str [], .int .i64 0, .int .i64 0, .bool false, .str [], .int .i64 0] := by rw [← hS3]; exact hb_ne hne h4
  clear hb1 hS3 h4 h5 S2; refine W.seq ?_; refine W.regionDK 0 [] Ty.mixed (by decide +kernel) (by decide +kernel) rfl ?_; apply r_op; exact rfl; exact rfl; apply a_move; (conv => (lhs; whnf)); apply r_op; exact rfl; exact rfl; apply g_binOp; exact a_binI rfl rfl rfl; apply r_op; exact rfl; exact rfl; apply a_move; (conv => (lhs; whnf)); apply r_op; exact rfl; exact rfl; apply g_call
  exact a_minE rfl rfl hj; apply r_indexV1; exact rfl; exact rfl; exact rfl; exact rfl; exact rfl; infer_instance; infer_instance; infer_instance; omega; exact hw; apply r_op; exact rfl; exact rfl; apply g_load; exact a_load1 rfl rfl; apply r_op; exact rfl; exact rfl; apply g_fieldAddr; exact a_fieldAddrP rfl (by decide); apply r_store; exact rfl; exact rfl; exact rfl; decide; infer_instance
  exact rfl; assumption; (conv => (lhs; whnf)); exact rfl; (conv => (lhs; whnf)); exact rfl; exact of_decide_eq_true rfl; exact rfl; apply r_op; exact rfl; exact rfl; apply g_fieldAddr; exact a_fieldAddrP rfl (by decide); apply r_store; exact rfl; exact rfl; exact rfl; decide; infer_instance; exact rfl; exact setBox_same; (conv => (lhs; whnf)); exact rfl; (conv => (lhs; whnf)); exact rfl
  exact of_decide_eq_true rfl; exact rfl; (with_reducible refine runs_done ?_); refine W.seq ?_; refine W.regionL (by decide +kernel) rfl ?_; apply r_load; exact rfl; exact rfl; exact rfl; decide; exact rfl; exact setBox_same; exact aLoadA rfl (by rfl) rfl; apply r_store; exact rfl; exact rfl; exact rfl; decide; infer_instance; exact rfl
  apply hb_ne (by exact ne_none' (by exact none_in (by assumption))); apply hb_ne (by exact ne_none' (by exact none_in (by assumption))); assumption; (conv => (lhs; whnf)); exact rfl; (conv => (lhs; whnf)); exact rfl; exact of_decide_eq_true rfl; exact setL_whole rfl; (with_reducible refine runs_done ?_); refine W.ret ?_; show Q Exit.ret _ _
  refine post_q hQ (by apply res_cell; exact rfl; exact setBox_same; exact aLoadA rfl (by rfl) rfl; exact res_nil) (.inl rfl) ?_ ?_; rotate_left; rotate_left
  · exact le_setBox (le_setBox (le_setBox hle h5n) h5n) h4n
  · rfl
end Go.Proofs.YtkbmkhhcppfcnaaGreatDoor
end
section
set_option linter.unusedVariables false
set_option linter.unusedSimpArgs false
set_option maxRecDepth 100000
set_option maxHeartbeats 4000000
namespace Go.Proofs.YtkbmkhhcppfcnaaGreatDoor
open Go.Al Go.RowKit
structure InDec (σ s : St) (b2 b4 : Nat) (x : Sub) (tg tq : Tok) : Prop where
  r : s.box b2 = some z10
  b : s.box b4 = some (subC x .full tq)
  mg : Moves σ .full s tg
  mq : Moves σ .full s tq
  d : ∀ p, tq = .own p → tg ≠ .own p
theorem InDec.other {σ s : St} {b2 b4 b : Nat} {x : Sub} {tg tq : Tok} {cs : List AV} (h : InDec σ s b2 b4 x tg tq) (h2 : b2 ≠ b) (h4 : b4 ≠ b) (hb : σ.box b = none) : InDec σ (s.setBox b cs) b2 b4 x tg tq :=
  ⟨hb_ne h2 h.r, hb_ne h4 h.b, h.mg.new hb, h.mq.new hb, h.d⟩
theorem InDec.set {σ s : St} {b2 b4 : Nat} {x x' : Sub} {tg tq : Tok} (h : InDec σ s b2 b4 x tg tq) (hne : b2 ≠ b4) (hb : σ.box b4 = none) : InDec σ (s.setBox b4 (subC x' .full tq)) b2 b4 x' tg tq :=
  ⟨hb_ne hne h.r, setBox_same, h.mg.new hb, h.mq.new hb, h.d⟩
theorem InDec.gaps {σ s s1 : St} {b2 b4 : Nat} {x : Sub} {tg tq tk : Tok} (h : InDec σ s b2 b4 x tg tq) (hm : Moves s tg s1 tk) : InDec σ s1 b2 b4 x tk tq := by
  obtain ⟨h1, h2, h3⟩ := Moves.two h.mg h.mq h.d hm
  exact ⟨hm.box _ _ h.r, hm.box _ _ h.b, h1, h2, h3⟩
theorem InDec.queue {σ s s1 : St} {b2 b4 : Nat} {x x' : Sub} {tg tq tk : Tok} (h : InDec σ s b2 b4 x tg tq) (hne : b2 ≠ b4) (hb : σ.box b4 = none) (hm : Moves s tq s1 tk) : InDec σ (s1.setBox b4 (subC x' .full tk)) b2 b4 x' tg tk := by
  obtain ⟨h1, h2, h3⟩ := Moves.two h.mq h.mg (fun p e e' => h.d p e' e) hm
  exact ⟨hb_ne hne (hm.box _ _ h.r), setBox_same, h2.new hb, h1.new hb, fun p e e' => h3 p e' e⟩
theorem rGaps_ge : ∀ (v : List UInt8) (n a : Nat) (f : Option Nat) (acc : List Int), acc.length ≤ (rGaps v n a f acc).1.length
  | v, 0, a, f, acc => by simp [rGaps]
  | v, n + 1, a, f, acc => by
    rw [rGaps]
    split
    · have := rGaps_ge v n (rNum v a f).2.1 (rNum v a f).2.2 (acc ++ [((rNum v a f).1 : Int)])
      simp at this; omega
    · exact Nat.le_refl _
theorem rNum_le53 (v : List UInt8) (a : Nat) (f : Option Nat) : (rNum v a f).1 ≤ 9007199254740992 := by
  have h := (getNum_le v a).2.1
  simp only [rNum]; split
  · exact h
  · exact Nat.zero_le _
def dHead (l : List Row) (b2 b4 : Nat) (i : Nat) (g : List Int) (tg : Tok) (good : Bool) : List (Nat × AV) :=
  [(0, eRows l), (2, .ptr b2 0), (3, .int .u16 0), (4, .ptr b4 0), (5, .slc 1 (g.map (.int .i64)) tg), (6, .bool good), (20, eRows l), (21, .int .i64 l.length), (22, .int .i64 i)]
theorem decode_any (w0 : Base) (hL : Laid w0) (l : List Row) (hT : tot l ≤ 100000) (hK : ∀ r ∈ l, r.key.length ≤ 1000) : CallP Tryz.prog w0 15 [eRows l] (.tup [eSub (dec3 l).1, .int .u16 (dec3 l).2]) := by
  refine CallP.start Tryz.func15 rfl Tryz.ntmps15 (by simp) fun σ Q hQ => ?_
  have hll := tot_len l
  refine W.seq ?_; refine W.regionL (by decide +kernel) rfl ?_; apply r_alloc; exact rfl; exact rfl; decide; exact rfl; (conv => (lhs; whnf)); intro b1 hb1; apply r_op; exact rfl; exact rfl; apply a_assign; (conv => (lhs; whnf)); refine runs_done ?_; show W _ _ _ _ _ _ _; refine W.seq ?_; refine W.regionL (by decide +kernel) rfl ?_; apply r_alloc; exact rfl; exact rfl; decide; exact rfl
  (conv => (lhs; whnf)); intro b1 hb1; refine runs_done ?_; show W _ _ _ _ _ _ _; refine W.seq ?_; refine W.regionL (by decide +kernel) rfl ?_; apply r_op; exact rfl; exact rfl; apply a_assign; (conv => (lhs; whnf)); refine runs_done ?_; show W _ _ _ _ _ _ _; refine W.seq ?_; refine W.regionL (by decide +kernel) rfl ?_; apply r_op; exact rfl; exact rfl; apply a_assign; (conv => (lhs; whnf))
  refine runs_done ?_; show W _ _ _ _ _ _ _
  rename_i b2 hb2
  have hne : b2 ≠ b1 := ne_none' hb1
  have hs4 : σ.box b1 = none := none_in hb1
  generalize b1 = b4 at hne hs4 hb1 ⊢
  have hd0 : InDec σ ((σ.setBox b2 z10).setBox b4 (subC sub0 .full .full)) b2 b4 sub0 .full .full :=
    ⟨hb_ne hne setBox_same, setBox_same, ((Moves.full σ).new hb2).new hs4, ((Moves.full σ).new hb2).new hs4, fun p e => by cases e⟩
  refine W.weakBox (b := b4) (ds := subC sub0 .full .full) setBox_same (.cons (.refl _) (.cons (.refl _) (.cons (.refl _) (.cons (.refl _) (.cons (.refl _) (.cons (.refl _) (.cons (.refl _) (.cons (.nils 1 .full (.inr rfl)) (.cons (.nils 8 .full (.inr rfl)) (.cons (.refl _) .nil)))))))))) ?_
  rw [setBox_setBox]
  change W Tryz.prog w0 _ _ _ _ ((σ.setBox b2 z10).setBox b4 (subC sub0 .full .full))
  generalize (σ.setBox b2 z10).setBox b4 (subC sub0 .full .full) = s1 at hd0 ⊢
  refine W.seq ?_
  refine W.meet (fun E s => ∃ tg tq, InDec σ s b2 b4 (dRows l l.length).x tg tq ∧ Has [(0, eRows l), (2, .ptr b2 0), (3, .int .u16 0), (4, .ptr b4 0), (5, .slc 1 ((dRows l l.length).gaps.map (.int .i64)) tg), (6, .bool (dRows l l.length).good)] E) ?_ ?_
  · refine W.seq ?_
    refine W.regionL (by decide +kernel) rfl ?_; apply r_op; exact rfl; exact rfl; apply a_move; (conv => (lhs; whnf)); apply r_op; exact rfl; exact rfl; apply g_call; exact a_len_slc rfl; apply r_op; exact rfl; exact rfl; apply a_move; (conv => (lhs; whnf)); (with_reducible refine runs_done ?_); refine W.block ?_
    refine W.loop (fun k E s => ∃ (i : Nat) (tg tq : Tok), i ≤ l.length ∧ k = l.length - i ∧ InDec σ s b2 b4 (dRows l i).x tg tq ∧ Has (dHead l b2 b4 i (dRows l i).gaps tg (dRows l i).good) E) l.length ⟨0, .full, .full, Nat.zero_le _, rfl, hd0, ?_⟩ ?_
    · rw [List.length_map]
      unfold dHead
      exact Has.by (by repeat (first | exact trivial | refine ⟨by first | trivial | exact Weak.refl _ | exact Weak.tok _ _ _ | exact Weak.of_eq (congrArg (AV.int _) (by omega)) | exact Weak.of_eq (congrArg AV.bool (by fail)) | exact Weak.nils _ _ (.inr rfl), ?_⟩))
    clear hd0 hb1 s1; rintro k E s ⟨i, tg, tq, hi, rfl, hs, hE⟩; refine W.has hE ?_; clear hE
    unfold dHead
    refine W.seq ?_; refine W.regionL (by decide +kernel) rfl ?_; apply r_op; exact rfl; exact rfl; apply g_binOp; exact a_binI rfl rfl rfl; (with_reducible refine runs_done ?_); refine W.seq ?_; refine W.cond rfl (fun hc => ?_) (fun hc => ?_)
    · have hlt : i < l.length := by simp at hc; omega
      have ga : l[i]? = some l[i] := by simp [hlt]
      have hmem : l[i] ∈ l := List.getElem_mem hlt
      have hkl := hK _ hmem
      have hvl : l[i].val.length ≤ 100000 := by have := tot_mem hmem; omega
      have hfit := dRows_fit l i (by omega)
      have htl := tot_le l i
      have hrow : dRows l (i + 1) = dStep (dRows l i) i ((l[i - 1]?).getD ⟨[], []⟩).key l[i] := by rw [dRows, ga]; rfl
      clear hmem hc
      generalize l[i] = r at ga hkl hvl hrow
      generalize hd : dRows l i = d at hs hfit hrow ⊢
      refine W.skip ?_; show W _ _ _ _ _ _ _; refine W.seq ?_; refine W.block ?_; refine W.seq ?_; refine W.regionL (by decide +kernel) rfl ?_; apply r_op; exact rfl; exact rfl; apply a_move; (conv => (lhs; whnf)); apply r_op; exact rfl; exact rfl; apply g_indexAddr; exact a_indexAddr rfl rfl (by decide) (by omega) (by exact get_map ga); apply r_op; exact rfl; exact rfl; apply g_load
      exact a_loadA rfl (by rfl) rfl; apply r_alloc; exact rfl; exact rfl; decide; exact rfl; (conv => (lhs; whnf)); intro b1 hb1; apply r_op; exact rfl; exact rfl; apply a_assign; (conv => (lhs; whnf)); apply r_store; exact rfl; exact rfl; exact rfl; decide; infer_instance; exact rfl; exact setBox_same; (conv => (lhs; whnf)); exact rfl; (conv => (lhs; whnf)); exact rfl; exact of_decide_eq_true rfl
      exact setL_whole rfl; refine runs_done ?_; show W _ _ _ _ _ _ _; refine W.freeze1 8 (eRow r) (by assumption) rfl rfl rfl ?_; clear hb1
      have hp := partsS_any w0 hL r.key (by omega)
      have hdr : dRow d r = dRow d r := rfl
      conv at hdr => (rhs; unfold dRow)
      generalize parts r.key = p at hp hdr
      have hb := hs.b
      refine W.seq ?_; refine W.regionL (by decide +kernel) rfl ?_; apply r_op; exact rfl; exact rfl; apply g_fieldAddr; exact a_fieldAddr1 rfl (by decide) rfl; apply r_op; exact rfl; exact rfl; apply g_load; exact a_load1 rfl rfl; apply r_callP; exact rfl; exact rfl; exact rfl; exact rfl; exact rfl; infer_instance; exact hp; apply r_op; exact rfl; exact rfl; apply a_move; (conv => (lhs; whnf))
      apply r_op; exact rfl; exact rfl; apply g_extract; exact a_extract rfl rfl; apply r_op; exact rfl; exact rfl; apply g_extract; exact a_extract rfl rfl; apply r_op; exact rfl; exact rfl; apply g_extract; exact a_extract rfl rfl; apply r_op; exact rfl; exact rfl; apply g_extract; exact a_extract rfl rfl; apply r_op; exact rfl; exact rfl; apply g_extract; exact a_extract rfl rfl; apply r_op
      exact rfl; exact rfl; apply a_assign; (conv => (lhs; whnf)); apply r_op; exact rfl; exact rfl; apply a_assign; (conv => (lhs; whnf)); apply r_op; exact rfl; exact rfl; apply a_assign; (conv => (lhs; whnf)); apply r_op; exact rfl; exact rfl; apply a_assign; (conv => (lhs; whnf)); apply r_op; exact rfl; exact rfl; apply a_assign; (conv => (lhs; whnf)); refine runs_done ?_; show W _ _ _ _ _ _ _
      refine W.seq ?_; refine W.regionL (by decide +kernel) rfl ?_; apply r_op; exact rfl; exact rfl; apply a_move; (conv => (lhs; whnf)); apply r_op; exact rfl; exact rfl; apply g_fieldAddr; exact a_fieldAddrP rfl (by decide); apply r_store; exact rfl; exact rfl; exact rfl; decide; infer_instance; exact rfl; assumption; (conv => (lhs; whnf)); exact rfl; (conv => (lhs; whnf)); exact rfl
      exact of_decide_eq_true rfl; exact rfl; refine runs_done ?_; show W _ _ _ _ _ _ _; refine W.seq ?_; refine W.regionL (by decide +kernel) rfl ?_; apply r_op; exact rfl; exact rfl; apply g_fieldAddr; exact a_fieldAddr1 rfl (by decide) rfl; apply r_op; exact rfl; exact rfl; apply g_load; exact a_load1 rfl rfl; apply r_op; exact rfl; exact rfl; apply g_build; apply a_build
      apply EvP.cons (by (conv => (lhs; whnf))); exact EvP.nil
      simp only [aFill, List.getElem?_cons_zero, List.getElem?_cons_succ, AV.cells, List.length_cons, List.length_nil, AV.flat, AV.one, setL, List.set_cons_zero, List.set_cons_succ, Nat.reduceAdd, Nat.reduceLeDiff, Nat.reduceMul, and_self, if_true, ↓reduceIte, Nat.zero_add, Nat.le_refl, List.range, List.range.loop, List.map_cons, List.map_nil, Nat.zero_le]
      rfl; apply r_op; exact rfl; exact rfl; apply g_build; apply a_build; apply EvP.cons (by (conv => (lhs; whnf))); exact EvP.nil
      simp only [aFill, List.getElem?_cons_zero, List.getElem?_cons_succ, AV.cells, List.length_cons, List.length_nil, AV.flat, AV.one, setL, List.set_cons_zero, List.set_cons_succ, Nat.reduceAdd, Nat.reduceLeDiff, Nat.reduceMul, and_self, if_true, ↓reduceIte, Nat.zero_add, Nat.le_refl, List.range, List.range.loop, List.map_cons, List.map_nil, Nat.zero_le]
      rfl; apply r_box; exact rfl; exact rfl; decide; exact rfl; (conv => (lhs; whnf)); exact rfl; (conv => (lhs; whnf)); intro b1 hb1; apply r_op; exact rfl; exact rfl; apply a_assign; (conv => (lhs; whnf)); refine runs_done ?_; show W _ _ _ _ _ _ _
      generalize b1 = b14 at *
      have hb14 := none_in hb1
      have h414 : b4 ≠ b14 := (ne_some hs.b hb14).symm
      have h214 : b2 ≠ b14 := (ne_some hs.r hb14).symm
      have hσ14 := none_moves hs.mg hb14
      have hs1 := hs.set (x' := { d.x with id := p.id }) hne hs4
      change W Tryz.prog w0 _ _ _ _ ((s.setBox b4 (subC { d.x with id := p.id } .full tq)).setBox b14 (rd r.val 0 none))
      generalize s.setBox b4 (subC { d.x with id := p.id } .full tq) = S1 at hs1 ⊢
      generalize hx1 : ({ d.x with id := p.id } : Sub) = x1 at hs1 hdr
      clear hb1 hb
      have hgl := hfit.gaps
      have hql := hfit.queue
      have hv : r.val.length ≤ 1000000 := by omega
      generalize hD : dRow d r = D at hdr
      refine W.seq ?_
      refine W.meet (fun E s' => ∃ (a : Nat) (tg tq : Tok) (S' : St), s' = S'.setBox b14 (rd r.val a D.2) ∧ InDec σ S' b2 b4 D.1.x tg tq ∧ Has [(0, eRows l), (2, .ptr b2 0), (3, .int .u16 0), (4, .ptr b4 0), (5, .slc 1 (D.1.gaps.map (.int .i64)) tg), (6, .bool d.good), (7, .int .i64 i), (8, .vp (eRow r)), (14, .ptr b14 0), (20, eRows l), (21, .int .i64 l.length), (22, .int .i64 i)] E) ?_ ?_
      · obtain ⟨n1, a1, f1, e1, k1⟩ := rn_to none hv (show 0 ≤ 1000000 by decide)
        refine W.seq ?_; refine W.regionL (by decide +kernel) rfl ?_; apply r_op; exact rfl; exact rfl; apply a_move; (conv => (lhs; whnf)); (with_reducible refine runs_done ?_); refine W.block ?_; refine W.seq ?_; refine W.regionL (by decide +kernel) rfl ?_; apply r_op; exact rfl; exact rfl; apply g_binOp; exact a_binI rfl rfl rfl; apply r_op; exact rfl; exact rfl; apply a_assign
        (conv => (lhs; whnf)); (with_reducible refine runs_done ?_); refine W.cond rfl (fun hc => ?_) (fun hc => ?_)
        · have ht : p.t = 97 := UInt8.toNat_inj.1 (by have := of_decide_eq_true hc; have e : (97 : UInt8).toNat = 97 := rfl; omega)
          rw [if_pos ht, e1] at hdr
          dsimp only at hdr
          have hn1 : n1 ≤ 9007199254740992 := by have := rNum_le53 r.val 0 none; rw [e1] at this; exact this
          have hgb := rGaps_len r.val n1 a1 f1 d.gaps (fun hf => by have := (rNum_step r.val 0 (by rw [e1]; exact hf)).2; rw [e1] at this; exact this)
          generalize hG : rGaps r.val n1 a1 f1 d.gaps = G at hdr hgb
          subst hdr
          dsimp only
          refine W.seq ?_; refine W.regionL (by decide +kernel) rfl ?_; apply r_op; exact rfl; exact rfl; apply a_move; (conv => (lhs; whnf)); apply r_callS; exact rfl; exact rfl; decide; exact rfl; exact rfl; exact rfl; infer_instance; exact rn_in w0 e1 hv (by decide); apply r_op; exact rfl; exact rfl; apply a_assign; (conv => (lhs; whnf)); (with_reducible refine runs_done ?_); refine W.block ?_
          refine W.loop (fun k E s' => ∃ (a : Nat) (f : Option Nat) (acc : List Int) (tg : Tok) (S' : St), s' = S'.setBox b14 (rd r.val a f) ∧ a ≤ 1000000 ∧ rGaps r.val k a f acc = G ∧ k ≤ 9007199254740992 ∧ InDec σ S' b2 b4 x1 tg tq ∧ Has [(0, eRows l), (2, .ptr b2 0), (3, .int .u16 0), (4, .ptr b4 0), (5, .slc 1 (acc.map (.int .i64)) tg), (6, .bool d.good), (7, .int .i64 i), (8, .vp (eRow r)), (14, .ptr b14 0), (15, .int .i64 k), (20, eRows l), (21, .int .i64 l.length), (22, .int .i64 i)] E) n1 ⟨a1, f1, d.gaps, tg, S1, rfl, k1, hG, hn1, hs1, by exact Has.by (by repeat (first | exact trivial | refine ⟨by first | trivial | exact Weak.refl _ | exact Weak.tok _ _ _ | exact Weak.of_eq (congrArg (AV.int _) (by omega)) | exact Weak.of_eq (congrArg AV.bool (by fail)) | exact Weak.nils _ _ (.inr rfl), ?_⟩))⟩ ?_
          clear hs1 hs hG k1 e1 hc; rintro k E s' ⟨a, f, acc, tg, S', rfl, ha, hg, hk, hs, hE⟩; refine W.has hE ?_; clear hE
          cases k with
          | zero =>
            subst hg
            refine W.seq ?_; refine W.seq ?_; refine W.regionL (by decide +kernel) rfl ?_; apply r_op; exact rfl; exact rfl; apply a_move; (conv => (lhs; whnf)); apply r_op; exact rfl; exact rfl; apply g_binOp; exact a_binI rfl rfl rfl; apply r_op; exact rfl; exact rfl; apply a_move; (conv => (lhs; whnf)); apply q_skip; exact rfl; exact want_f rfl rfl rfl (by exact rfl); apply q_skip; exact rfl
            exact want_f rfl rfl rfl (by exact rfl); apply q_skip; exact rfl; exact want_f rfl rfl rfl (by exact rfl); apply q_skip; exact rfl; exact want_f rfl rfl rfl (by exact rfl); apply q_skip; exact rfl; exact want_f rfl rfl rfl (by exact rfl); apply r_op; exact rfl; exact rfl; apply g_pick; apply a_pickF rfl (by exact rfl); (conv => (lhs; whnf)); (with_reducible refine runs_done ?_)
            refine W.condF rfl (by exact rfl) ?_; refine W.exit ?_
            subst hx1
            exact ⟨a, tg, tq, S', rfl, hs, by exact Has.by (by repeat (first | exact trivial | refine ⟨by first | trivial | exact Weak.refl _ | exact Weak.tok _ _ _ | exact Weak.of_eq (congrArg (AV.int _) (by omega)) | exact Weak.of_eq (congrArg AV.bool (by fail)) | exact Weak.nils _ _ (.inr rfl), ?_⟩))⟩
          | succ k =>
            have d1 : decide ((0 : Int) < ((k + 1 : Nat) : Int)) = true := decide_eq_true (by omega)
            cases f with
            | some e =>
              have hg' : G = (acc, some e) := by rw [← hg]; rfl
              subst hg'
              refine W.seq ?_; refine W.seq ?_; refine W.regionL (by decide +kernel) rfl ?_; apply r_op; exact rfl; exact rfl; apply a_move; (conv => (lhs; whnf)); apply r_op; exact rfl; exact rfl; apply g_binOp; exact a_binI rfl rfl rfl; apply r_op; exact rfl; exact rfl; apply a_move; (conv => (lhs; whnf)); apply r_op; exact rfl; exact want_t rfl rfl rfl (by assumption); apply a_move
              (conv => (lhs; whnf)); apply r_op; exact rfl; exact want_t rfl rfl rfl (by assumption); apply g_nilCheck; exact a_nilCheck rfl rfl; apply r_op; exact rfl; exact want_t rfl rfl rfl (by assumption); apply g_fieldAddr; exact a_fieldAddrP rfl (by decide); apply r_load; exact rfl; exact rfl; exact rfl; decide; exact want_t rfl rfl rfl (by assumption); exact setBox_same; exact aLoad1 rfl
              apply r_op; exact rfl; exact want_t rfl rfl rfl (by assumption); apply g_binOp; exact a_nilI rfl rfl (by exact .inr ⟨_, _, rfl⟩) rfl rfl rfl; apply r_op; exact rfl; exact rfl; apply g_pick; apply a_pickT rfl (by assumption); (conv => (lhs; whnf)); (with_reducible refine runs_done ?_); refine W.condF rfl (by exact rfl) ?_; refine W.exit ?_
              subst hx1
              exact ⟨a, tg, tq, S', rfl, hs, by exact Has.by (by repeat (first | exact trivial | refine ⟨by first | trivial | exact Weak.refl _ | exact Weak.tok _ _ _ | exact Weak.of_eq (congrArg (AV.int _) (by omega)) | exact Weak.of_eq (congrArg AV.bool (by fail)) | exact Weak.nils _ _ (.inr rfl), ?_⟩))⟩
            | none =>
              obtain ⟨n2, a2, f2, e2, k2⟩ := rn_to none hv ha
              rw [rGaps, if_pos rfl, e2] at hg
              dsimp only at hg
              have hge := rGaps_ge r.val k a2 f2 (acc ++ [(n2 : Int)])
              rw [hg, List.length_append, List.length_singleton] at hge
              have hal : acc.length ≤ 1000000 := by omega
              have hm0 := Moves.refl (σ := S'.setBox b14 (rd r.val a2 f2)) (tk := tg) hs.mg.room
              have hs2 := hs.other (cs := rd r.val a2 f2) h214 h414 hσ14
              refine W.seq ?_; refine W.seq ?_; refine W.regionL (by decide +kernel) rfl ?_; apply r_op; exact rfl; exact rfl; apply a_move; (conv => (lhs; whnf)); apply r_op; exact rfl; exact rfl; apply g_binOp; exact a_binI rfl rfl rfl; apply r_op; exact rfl; exact rfl; apply a_move; (conv => (lhs; whnf)); apply r_op; exact rfl; exact want_t rfl rfl rfl (by assumption); apply a_move
              (conv => (lhs; whnf)); apply r_op; exact rfl; exact want_t rfl rfl rfl (by assumption); apply g_nilCheck; exact a_nilCheck rfl rfl; apply r_op; exact rfl; exact want_t rfl rfl rfl (by assumption); apply g_fieldAddr; exact a_fieldAddrP rfl (by decide); apply r_load; exact rfl; exact rfl; exact rfl; decide; exact want_t rfl rfl rfl (by assumption); exact setBox_same; exact aLoad1 rfl
              apply r_op; exact rfl; exact want_t rfl rfl rfl (by assumption); apply g_binOp; exact a_nilI rfl rfl (by exact .inl rfl) rfl rfl rfl; apply r_op; exact rfl; exact rfl; apply g_pick; apply a_pickT rfl (by assumption); (conv => (lhs; whnf)); (with_reducible refine runs_done ?_); refine W.condT rfl (by exact rfl) ?_; refine W.skip ?_; show W _ _ _ _ _ _ _; refine W.seq ?_
              refine W.block ?_; refine W.regionL (by decide +kernel) rfl ?_; apply r_op; exact rfl; exact rfl; apply a_move; (conv => (lhs; whnf)); apply r_op; exact rfl; exact rfl; apply a_move; (conv => (lhs; whnf)); apply r_callS; exact rfl; exact rfl; decide; exact rfl; exact rfl; exact rfl; infer_instance; exact rn_in w0 e2 hv ha; apply r_op; exact rfl; exact rfl; apply g_buildSlice
              apply a_build1; (conv => (lhs; whnf)); exact rfl; exact rfl; decide; apply r_append'; exact rfl; exact rfl; decide; infer_instance; exact rfl; exact rfl; exact rfl; exact rfl; exact rfl; assumption
              simp only [length_aBytes, List.length_append, List.length_cons, List.length_nil, List.length_map, List.length_range]
              omega; intro tk1 σ1 hm; apply r_op; exact rfl; exact rfl; apply a_assign; (conv => (lhs; whnf)); (with_reducible refine runs_done ?_); refine W.regionL (by decide +kernel) rfl ?_; apply r_op; exact rfl; exact rfl; apply a_move; (conv => (lhs; whnf)); apply r_op; exact rfl; exact rfl; apply g_binOp; exact a_sub64 rfl rfl (by omega); apply r_op; exact rfl; exact rfl; apply a_assign
              (conv => (lhs; whnf)); (with_reducible refine runs_done ?_)
              refine ⟨k, by omega, a2, f2, acc ++ [(n2 : Int)], tk1, σ1, (setBox_id (hm.box _ _ setBox_same)).symm, k2, hg, by omega, hs2.gaps hm, ?_⟩
              rw [List.map_append]
              exact Has.by (by repeat (first | exact trivial | refine ⟨by first | trivial | exact Weak.refl _ | exact Weak.tok _ _ _ | exact Weak.of_eq (congrArg (AV.int _) (by omega)) | exact Weak.of_eq (congrArg AV.bool (by fail)) | exact Weak.nils _ _ (.inr rfl), ?_⟩))
        · have ht : ¬ p.t = 97 := fun h => by have := of_decide_eq_false hc; rw [h] at this; exact this rfl
          rw [if_neg ht] at hdr
          have hx1q : x1.queue = d.x.queue := by rw [← hx1]
          have hb := hs1.b
          clear hc e1; refine W.seq ?_; refine W.regionL (by decide +kernel) rfl ?_; apply r_op; exact rfl; exact rfl; apply g_binOp; exact a_binI rfl rfl rfl; apply r_op; exact rfl; exact rfl; apply a_assign; (conv => (lhs; whnf)); (with_reducible refine runs_done ?_); refine W.cond rfl (fun hc => ?_) (fun hc => ?_)
          · have ht2 : p.t = 113 := UInt8.toNat_inj.1 (by have := of_decide_eq_true hc; have e : (113 : UInt8).toNat = 113 := rfl; omega)
            rw [if_pos ht2] at hdr
            have hmsg := message_any w0 (b := b14) (S := S1) (v := r.val) (a := 0) (f := none) p.seq hv (by decide)
            generalize rMsg p.seq r.val 0 none = m at hdr hmsg
            obtain ⟨m, a2, f2⟩ := m
            dsimp only at hdr hmsg
            have hql1 : x1.queue.length ≤ 1000000 := by rw [hx1q]; omega
            have hm0 := Moves.refl (σ := S1.setBox b14 (rd r.val a2 f2)) (tk := tq) hs1.mq.room
            have hs2 := hs1.other (cs := rd r.val a2 f2) h214 h414 hσ14
            refine W.regionDH b4 [] [54] (by apply hb_ne (by assumption); assumption) Ty.mixed (by decide +kernel) (by decide +kernel) rfl ?_; apply r_op; exact rfl; exact rfl; apply g_fieldAddr; exact a_fieldAddrP rfl (by decide); apply r_loadH; exact rfl; exact rfl; exact rfl; exact rfl; exact rfl; exact rfl; exact rfl; apply hb_ne (by assumption); assumption; exact aLoad1 rfl
            apply r_op; exact rfl; exact rfl; apply a_move; (conv => (lhs; whnf)); apply r_op; exact rfl; exact rfl; apply a_move; (conv => (lhs; whnf)); apply r_callH; exact rfl; exact rfl; exact rfl; exact rfl; exact rfl; exact rfl; exact rfl; exact rfl; infer_instance; exact hmsg; apply hb_ne (by assumption); assumption; apply r_op; exact rfl; exact rfl; apply g_buildSlice; apply a_build1
            (conv => (lhs; whnf)); exact rfl; exact rfl; decide; apply r_append'; exact rfl; exact rfl; exact rfl; infer_instance; exact rfl; exact rfl; exact rfl; exact rfl; exact rfl; assumption
            simp only [length_aBytes, List.length_append, List.length_cons, List.length_nil, List.length_map, List.length_range]
            omega; intro tk1 σ1 hm; apply r_op; exact rfl; exact rfl; apply g_fieldAddr; exact a_fieldAddrP rfl (by decide); apply r_store; exact rfl; exact rfl; exact rfl; exact rfl; infer_instance; exact rfl; apply hb_moves (by assumption); apply hb_ne (by assumption); assumption; (conv => (lhs; whnf)); exact rfl; (conv => (lhs; whnf)); exact rfl; exact of_decide_eq_true rfl; exact rfl
            refine runs_done ?_
            skip
            have hq := hs2.queue (x' := { x1 with queue := x1.queue ++ [m] }) hne hs4 hm
            simp only [subC, List.map_append, List.map_cons, List.map_nil] at hq
            subst hdr
            subst hx1
            refine ⟨a2, tg, tk1, _, (setBox_id (hb_ne h414.symm (hm.box _ _ setBox_same))).symm, hq, by exact Has.by (by repeat (first | exact trivial | refine ⟨by first | trivial | exact Weak.refl _ | exact Weak.tok _ _ _ | exact Weak.of_eq (congrArg (AV.int _) (by omega)) | exact Weak.of_eq (congrArg AV.bool (by fail)) | exact Weak.nils _ _ (.inr rfl), ?_⟩))⟩
          · have ht2 : ¬ p.t = 113 := fun h => by have := of_decide_eq_false hc; rw [h] at this; exact this rfl
            rw [if_neg ht2] at hdr
            clear hc; refine W.seq ?_; refine W.regionL (by decide +kernel) rfl ?_; apply r_op; exact rfl; exact rfl; apply g_binOp; exact a_binI rfl rfl rfl; apply r_op; exact rfl; exact rfl; apply a_assign; (conv => (lhs; whnf)); (with_reducible refine runs_done ?_); refine W.cond rfl (fun hc => ?_) (fun hc => ?_)
            · have ht3 : p.t = 115 := UInt8.toNat_inj.1 (by have := of_decide_eq_true hc; have e : (115 : UInt8).toNat = 115 := rfl; omega)
              rw [if_pos ht3] at hdr
              obtain ⟨s1, a1, f1, e1, k1⟩ := rt_to none 30 hv (show 0 ≤ 1000000 by decide)
              obtain ⟨s2, a2, f2, e2, k2⟩ := rt_to f1 30 hv k1
              obtain ⟨s3, a3, f3, e3, k3⟩ := rt_to f2 30 hv k2
              obtain ⟨n4, a4, f4, e4, k4⟩ := rn_to f3 hv k3
              obtain ⟨n5, a5, f5, e5, k5⟩ := rn_to f4 hv k4
              obtain ⟨n6, a6, f6, e6, k6⟩ := rn_to f5 hv k5
              obtain ⟨s7, a7, f7, e7, k7⟩ := rt_to f6 30 hv k6
              have hr : rSub x1 r.val = ({ x1 with name := s1, topic := s2, want := s3, lease := n4, most := n5, floor := n6, note := s7 }, f7) := by simp only [rSub, e1, e2, e3, e4, e5, e6, e7]
              refine W.seq ?_; refine W.regionL (by decide +kernel) rfl ?_; apply r_op; exact rfl; exact rfl; apply a_move; (conv => (lhs; whnf)); apply r_callS; exact rfl; exact rfl; decide; exact rfl; exact rfl; exact rfl; infer_instance; exact rt_in w0 e1 hv (by decide) (by decide); apply r_op; exact rfl; exact rfl; apply a_move; (conv => (lhs; whnf)); apply r_callS; exact rfl; exact rfl; decide
              exact rfl; exact rfl; exact rfl; infer_instance; exact rt_in w0 e2 hv k1 (by decide); apply r_op; exact rfl; exact rfl; apply a_move; (conv => (lhs; whnf)); apply r_callS; exact rfl; exact rfl; decide; exact rfl; exact rfl; exact rfl; infer_instance; exact rt_in w0 e3 hv k2 (by decide); apply r_op; exact rfl; exact rfl; apply g_fieldAddr; exact a_fieldAddrP rfl (by decide)
              apply r_store; exact rfl; exact rfl; exact rfl; decide; infer_instance; exact rfl; apply hb_ne (by assumption); assumption; (conv => (lhs; whnf)); exact rfl; (conv => (lhs; whnf)); exact rfl; exact of_decide_eq_true rfl; exact rfl; apply r_op; exact rfl; exact rfl; apply g_fieldAddr; exact a_fieldAddrP rfl (by decide); apply r_store; exact rfl; exact rfl; exact rfl; decide
              infer_instance; exact rfl; exact setBox_same; (conv => (lhs; whnf)); exact rfl; (conv => (lhs; whnf)); exact rfl; exact of_decide_eq_true rfl; exact rfl; apply r_op; exact rfl; exact rfl; apply g_fieldAddr; exact a_fieldAddrP rfl (by decide); apply r_store; exact rfl; exact rfl; exact rfl; decide; infer_instance; exact rfl; exact setBox_same; (conv => (lhs; whnf)); exact rfl
              (conv => (lhs; whnf)); exact rfl; exact of_decide_eq_true rfl; exact rfl; refine runs_done ?_; show W _ _ _ _ _ _ _
              rw [setBox_setBox, setBox_setBox, setBox_comm h414.symm]
              change W Tryz.prog w0 _ _ _ _ ((S1.setBox b4 (subC { x1 with name := s1, topic := s2, want := s3 } .full tq)).setBox b14 (rd r.val a3 f3))
              have hs3 := hs1.set (x' := { x1 with name := s1, topic := s2, want := s3 }) hne hs4
              generalize S1.setBox b4 (subC { x1 with name := s1, topic := s2, want := s3 } .full tq) = S3 at hs3 ⊢
              clear hb
              have hb := hs3.b
              refine W.regionL (by decide +kernel) rfl ?_; apply r_op; exact rfl; exact rfl; apply a_move; (conv => (lhs; whnf)); apply r_callS; exact rfl; exact rfl; decide; exact rfl; exact rfl; exact rfl; infer_instance; exact rn_in w0 e4 hv k3; apply r_op; exact rfl; exact rfl; apply a_move; (conv => (lhs; whnf)); apply r_callS; exact rfl; exact rfl; decide; exact rfl; exact rfl; exact rfl
              infer_instance; exact rn_in w0 e5 hv k4; apply r_op; exact rfl; exact rfl; apply a_move; (conv => (lhs; whnf)); apply r_callS; exact rfl; exact rfl; decide; exact rfl; exact rfl; exact rfl; infer_instance; exact rn_in w0 e6 hv k5; apply r_op; exact rfl; exact rfl; apply a_move; (conv => (lhs; whnf)); apply r_callS; exact rfl; exact rfl; decide; exact rfl; exact rfl; exact rfl
              infer_instance; exact rt_in w0 e7 hv k6 (by decide); apply r_op; exact rfl; exact rfl; apply g_fieldAddr; exact a_fieldAddrP rfl (by decide); apply r_store; exact rfl; exact rfl; exact rfl; decide; infer_instance; exact rfl; apply hb_ne (by assumption); assumption; (conv => (lhs; whnf)); exact rfl; (conv => (lhs; whnf)); exact rfl; exact of_decide_eq_true rfl; exact rfl; apply r_op
              exact rfl; exact rfl; apply g_fieldAddr; exact a_fieldAddrP rfl (by decide); apply r_store; exact rfl; exact rfl; exact rfl; decide; infer_instance; exact rfl; exact setBox_same; (conv => (lhs; whnf)); exact rfl; (conv => (lhs; whnf)); exact rfl; exact of_decide_eq_true rfl; exact rfl; apply r_op; exact rfl; exact rfl; apply g_fieldAddr; exact a_fieldAddrP rfl (by decide)
              apply r_store; exact rfl; exact rfl; exact rfl; decide; infer_instance; exact rfl; exact setBox_same; (conv => (lhs; whnf)); exact rfl; (conv => (lhs; whnf)); exact rfl; exact of_decide_eq_true rfl; exact rfl; apply r_op; exact rfl; exact rfl; apply g_fieldAddr; exact a_fieldAddrP rfl (by decide); apply r_store; exact rfl; exact rfl; exact rfl; decide; infer_instance; exact rfl
              exact setBox_same; (conv => (lhs; whnf)); exact rfl; (conv => (lhs; whnf)); exact rfl; exact of_decide_eq_true rfl; exact rfl; (with_reducible refine runs_done ?_)
              have hfin := hs3.set (x' := { x1 with name := s1, topic := s2, want := s3, lease := n4, most := n5, floor := n6, note := s7 }) hne hs4
              subst hx1
              dsimp only at hdr
              rw [hr] at hdr
              subst hdr
              refine ⟨a7, tg, tq, _, ?_, hfin, by exact Has.by (by repeat (first | exact trivial | refine ⟨by first | trivial | exact Weak.refl _ | exact Weak.tok _ _ _ | exact Weak.of_eq (congrArg (AV.int _) (by omega)) | exact Weak.of_eq (congrArg AV.bool (by fail)) | exact Weak.nils _ _ (.inr rfl), ?_⟩))⟩
              simp only [setBox_setBox]
              exact setBox_comm h414.symm
            · have ht3 : ¬ p.t = 115 := fun h => by have := of_decide_eq_false hc; rw [h] at this; exact this rfl
              rw [if_neg ht3] at hdr
              subst hdr
              subst hx1
              refine W.skip ?_
              exact ⟨0, tg, tq, S1, rfl, hs1, by exact Has.by (by repeat (first | exact trivial | refine ⟨by first | trivial | exact Weak.refl _ | exact Weak.tok _ _ _ | exact Weak.of_eq (congrArg (AV.int _) (by omega)) | exact Weak.of_eq (congrArg AV.bool (by fail)) | exact Weak.nils _ _ (.inr rfl), ?_⟩))⟩
      · rintro E s' ⟨a, tg, tq, S', rfl, hs', hE⟩
        refine W.has hE ?_; clear hE
        have hx : (dRows l (i + 1)).x = D.1.x := by rw [hrow, dStep, hD]
        have hgs : (dRows l (i + 1)).gaps = D.1.gaps := by rw [hrow, dStep, hD]
        have hgd : (dRows l (i + 1)).good = (d.good && (decide (i = 0) || gtS r.key ((l[i - 1]?).getD ⟨[], []⟩).key) && D.2.isNone) := by rw [hrow, dStep, hD]
        have hs2 := hs'.other (cs := rd r.val a D.2) h214 h414 hσ14
        clear hs hs1 hrow hD hdr hp hfit
        obtain ⟨D, fz⟩ := D
        dsimp only at hs2 hx hgs hgd ⊢
        generalize d.good = g at hgd ⊢
        by_cases hi0 : i = 0
        · subst hi0
          have d100 : decide (((0 : Nat) : Int) = 0) = true := rfl
          cases fz with
          | none =>
            refine W.regionDK 1 [] Ty.mixed (by decide +kernel) (by decide +kernel) rfl ?_; apply r_op; exact rfl; exact rfl; apply a_move; (conv => (lhs; whnf)); apply r_op; exact rfl; exact rfl; apply a_move; (conv => (lhs; whnf)); refine q_split rfl rfl rfl (fun hg => ?_) (fun hg => ?_); apply r_op; exact rfl; exact want_t rfl rfl rfl (by assumption); apply a_move; (conv => (lhs; whnf))
            apply r_op; exact rfl; exact want_t rfl rfl rfl (by assumption); apply g_binOp; exact a_binI rfl rfl rfl; apply r_op; exact rfl; exact want_t rfl rfl rfl (by assumption); apply a_move; (conv => (lhs; whnf)); apply q_skip; exact rfl; exact want_f rfl rfl rfl (by exact rfl); apply q_skip; exact rfl; exact want_f rfl rfl rfl (by exact rfl); apply q_skip; exact rfl
            exact want_f rfl rfl rfl (by exact rfl); apply q_skip; exact rfl; exact want_f rfl rfl rfl (by exact rfl); apply q_skip; exact rfl; exact want_f rfl rfl rfl (by exact rfl); apply q_skip; exact rfl; exact want_f rfl rfl rfl (by exact rfl); apply q_skip; exact rfl; exact want_f rfl rfl rfl (by exact rfl); apply q_skip; exact rfl; exact want_f rfl rfl rfl (by exact rfl); apply q_skip
            exact rfl; exact want_f rfl rfl rfl (by exact rfl); apply r_op; exact rfl; exact want_t rfl rfl rfl (by assumption); apply g_pick; apply a_pickT rfl (by exact rfl); (conv => (lhs; whnf)); apply r_op; exact rfl; exact rfl; apply g_pick; apply a_pickT rfl (by assumption); (conv => (lhs; whnf)); apply r_op; exact rfl; exact rfl; apply a_move; (conv => (lhs; whnf)); apply r_op; exact rfl
            exact rfl; apply a_move; (conv => (lhs; whnf)); apply r_op; exact rfl; exact rfl; apply g_nilCheck; exact a_nilCheck rfl rfl; apply r_op; exact rfl; exact rfl; apply g_fieldAddr; exact a_fieldAddrP rfl (by decide); apply r_load; exact rfl; exact rfl; exact rfl; decide; exact rfl; exact setBox_same; exact aLoad1 rfl; apply r_op; exact rfl; exact rfl; apply g_binOp
            exact a_nilI rfl rfl (by exact .inl rfl) rfl rfl rfl; apply r_op; exact rfl; exact rfl; apply g_pick; apply a_pickT rfl (by exact rfl); (conv => (lhs; whnf)); apply r_op; exact rfl; exact rfl; apply a_assign; (conv => (lhs; whnf)); (with_reducible refine runs_done ?_); refine W.regionL (by decide +kernel) rfl ?_; apply r_op; exact rfl; exact rfl; apply g_binOp
            exact a_add64 rfl rfl (by omega); apply r_op; exact rfl; exact rfl; apply a_move; (conv => (lhs; whnf)); (with_reducible refine runs_done ?_); rotate_left; apply q_skip; exact rfl; exact want_f rfl rfl rfl (by assumption); apply q_skip; exact rfl; exact want_f rfl rfl rfl (by assumption); apply q_skip; exact rfl; exact want_f rfl rfl rfl (by assumption); apply q_skip; exact rfl
            exact want_n rfl rfl rfl; apply q_skip; exact rfl; exact want_n rfl rfl rfl; apply q_skip; exact rfl; exact want_n rfl rfl rfl; apply q_skip; exact rfl; exact want_n rfl rfl rfl; apply q_skip; exact rfl; exact want_n rfl rfl rfl; apply q_skip; exact rfl; exact want_n rfl rfl rfl; apply q_skip; exact rfl; exact want_n rfl rfl rfl; apply q_skip; exact rfl; exact want_n rfl rfl rfl
            apply q_skip; exact rfl; exact want_n rfl rfl rfl; apply q_skip; exact rfl; exact want_f rfl rfl rfl (by assumption); apply r_op; exact rfl; exact rfl; apply g_pick; apply a_pickF rfl (by assumption); (conv => (lhs; whnf)); apply r_op; exact rfl; exact rfl; apply a_move; (conv => (lhs; whnf)); apply q_skip; exact rfl; exact want_f rfl rfl rfl (by exact rfl); apply q_skip; exact rfl
            exact want_f rfl rfl rfl (by exact rfl); apply q_skip; exact rfl; exact want_f rfl rfl rfl (by exact rfl); apply q_skip; exact rfl; exact want_f rfl rfl rfl (by exact rfl); apply q_skip; exact rfl; exact want_f rfl rfl rfl (by exact rfl); apply r_op; exact rfl; exact rfl; apply g_pick; apply a_pickF rfl (by exact rfl); (conv => (lhs; whnf)); apply r_op; exact rfl; exact rfl
            apply a_assign; (conv => (lhs; whnf)); (with_reducible refine runs_done ?_); refine W.regionL (by decide +kernel) rfl ?_; apply r_op; exact rfl; exact rfl; apply g_binOp; exact a_add64 rfl rfl (by omega); apply r_op; exact rfl; exact rfl; apply a_move; (conv => (lhs; whnf)); (with_reducible refine runs_done ?_); rotate_left
            all_goals refine ⟨l.length - (0 + 1), by omega, 0 + 1, tg, tq, by omega, rfl, by rw [hx]; exact hs2, ?_⟩
            all_goals rw [hgs, hgd]
            all_goals exact Has.by (by repeat (first | exact trivial | refine ⟨by first | trivial | exact Weak.refl _ | exact Weak.tok _ _ _ | exact Weak.of_eq (congrArg (AV.int _) (by omega)) | exact Weak.of_eq (congrArg AV.bool (by (first | (simp_all [gtS]; done) | (simp only [gtS, Option.getD_some]; rw [hg]; simp [hi0]; done) | fail))) | exact Weak.nils _ _ (.inr rfl), ?_⟩))
          | some e =>
            refine W.regionDK 1 [] Ty.mixed (by decide +kernel) (by decide +kernel) rfl ?_; apply r_op; exact rfl; exact rfl; apply a_move; (conv => (lhs; whnf)); apply r_op; exact rfl; exact rfl; apply a_move; (conv => (lhs; whnf)); refine q_split rfl rfl rfl (fun hg => ?_) (fun hg => ?_); apply r_op; exact rfl; exact want_t rfl rfl rfl (by assumption); apply a_move; (conv => (lhs; whnf))
            apply r_op; exact rfl; exact want_t rfl rfl rfl (by assumption); apply g_binOp; exact a_binI rfl rfl rfl; apply r_op; exact rfl; exact want_t rfl rfl rfl (by assumption); apply a_move; (conv => (lhs; whnf)); apply q_skip; exact rfl; exact want_f rfl rfl rfl (by exact rfl); apply q_skip; exact rfl; exact want_f rfl rfl rfl (by exact rfl); apply q_skip; exact rfl
            exact want_f rfl rfl rfl (by exact rfl); apply q_skip; exact rfl; exact want_f rfl rfl rfl (by exact rfl); apply q_skip; exact rfl; exact want_f rfl rfl rfl (by exact rfl); apply q_skip; exact rfl; exact want_f rfl rfl rfl (by exact rfl); apply q_skip; exact rfl; exact want_f rfl rfl rfl (by exact rfl); apply q_skip; exact rfl; exact want_f rfl rfl rfl (by exact rfl); apply q_skip
            exact rfl; exact want_f rfl rfl rfl (by exact rfl); apply r_op; exact rfl; exact want_t rfl rfl rfl (by assumption); apply g_pick; apply a_pickT rfl (by exact rfl); (conv => (lhs; whnf)); apply r_op; exact rfl; exact rfl; apply g_pick; apply a_pickT rfl (by assumption); (conv => (lhs; whnf)); apply r_op; exact rfl; exact rfl; apply a_move; (conv => (lhs; whnf)); apply r_op; exact rfl
            exact rfl; apply a_move; (conv => (lhs; whnf)); apply r_op; exact rfl; exact rfl; apply g_nilCheck; exact a_nilCheck rfl rfl; apply r_op; exact rfl; exact rfl; apply g_fieldAddr; exact a_fieldAddrP rfl (by decide); apply r_load; exact rfl; exact rfl; exact rfl; decide; exact rfl; exact setBox_same; exact aLoad1 rfl; apply r_op; exact rfl; exact rfl; apply g_binOp
            exact a_nilI rfl rfl (by exact .inr ⟨_, _, rfl⟩) rfl rfl rfl; apply r_op; exact rfl; exact rfl; apply g_pick; apply a_pickT rfl (by exact rfl); (conv => (lhs; whnf)); apply r_op; exact rfl; exact rfl; apply a_assign; (conv => (lhs; whnf)); (with_reducible refine runs_done ?_); refine W.regionL (by decide +kernel) rfl ?_; apply r_op; exact rfl; exact rfl; apply g_binOp
            exact a_add64 rfl rfl (by omega); apply r_op; exact rfl; exact rfl; apply a_move; (conv => (lhs; whnf)); (with_reducible refine runs_done ?_); rotate_left; apply q_skip; exact rfl; exact want_f rfl rfl rfl (by assumption); apply q_skip; exact rfl; exact want_f rfl rfl rfl (by assumption); apply q_skip; exact rfl; exact want_f rfl rfl rfl (by assumption); apply q_skip; exact rfl
            exact want_n rfl rfl rfl; apply q_skip; exact rfl; exact want_n rfl rfl rfl; apply q_skip; exact rfl; exact want_n rfl rfl rfl; apply q_skip; exact rfl; exact want_n rfl rfl rfl; apply q_skip; exact rfl; exact want_n rfl rfl rfl; apply q_skip; exact rfl; exact want_n rfl rfl rfl; apply q_skip; exact rfl; exact want_n rfl rfl rfl; apply q_skip; exact rfl; exact want_n rfl rfl rfl
            apply q_skip; exact rfl; exact want_n rfl rfl rfl; apply q_skip; exact rfl; exact want_f rfl rfl rfl (by assumption); apply r_op; exact rfl; exact rfl; apply g_pick; apply a_pickF rfl (by assumption); (conv => (lhs; whnf)); apply r_op; exact rfl; exact rfl; apply a_move; (conv => (lhs; whnf)); apply q_skip; exact rfl; exact want_f rfl rfl rfl (by exact rfl); apply q_skip; exact rfl
            exact want_f rfl rfl rfl (by exact rfl); apply q_skip; exact rfl; exact want_f rfl rfl rfl (by exact rfl); apply q_skip; exact rfl; exact want_f rfl rfl rfl (by exact rfl); apply q_skip; exact rfl; exact want_f rfl rfl rfl (by exact rfl); apply r_op; exact rfl; exact rfl; apply g_pick; apply a_pickF rfl (by exact rfl); (conv => (lhs; whnf)); apply r_op; exact rfl; exact rfl
            apply a_assign; (conv => (lhs; whnf)); (with_reducible refine runs_done ?_); refine W.regionL (by decide +kernel) rfl ?_; apply r_op; exact rfl; exact rfl; apply g_binOp; exact a_add64 rfl rfl (by omega); apply r_op; exact rfl; exact rfl; apply a_move; (conv => (lhs; whnf)); (with_reducible refine runs_done ?_); rotate_left
            all_goals refine ⟨l.length - (0 + 1), by omega, 0 + 1, tg, tq, by omega, rfl, by rw [hx]; exact hs2, ?_⟩
            all_goals rw [hgs, hgd]
            all_goals exact Has.by (by repeat (first | exact trivial | refine ⟨by first | trivial | exact Weak.refl _ | exact Weak.tok _ _ _ | exact Weak.of_eq (congrArg (AV.int _) (by omega)) | exact Weak.of_eq (congrArg AV.bool (by (first | (simp_all [gtS]; done) | (simp only [gtS, Option.getD_some]; rw [hg]; simp [hi0]; done) | fail))) | exact Weak.nils _ _ (.inr rfl), ?_⟩))
        · have d100 : decide ((i : Int) = 0) = false := decide_eq_false (by omega)
          obtain ⟨pv, hpv⟩ : ∃ pv, l[i - 1]? = some pv := ⟨l[i - 1]'(by omega), by simp⟩
          have gp : l[((i : Int) - 1).toNat]? = some pv := by rw [show ((i : Int) - 1).toNat = i - 1 by omega]; exact hpv
          rw [hpv] at hgd
          cases fz with
          | none =>
            refine W.regionDK 1 [] Ty.mixed (by decide +kernel) (by decide +kernel) rfl ?_; apply r_op; exact rfl; exact rfl; apply a_move; (conv => (lhs; whnf)); apply r_op; exact rfl; exact rfl; apply a_move; (conv => (lhs; whnf)); refine q_split rfl rfl rfl (fun hg => ?_) (fun hg => ?_); apply r_op; exact rfl; exact want_t rfl rfl rfl (by assumption); apply a_move; (conv => (lhs; whnf))
            apply r_op; exact rfl; exact want_t rfl rfl rfl (by assumption); apply g_binOp; exact a_binI rfl rfl rfl; apply r_op; exact rfl; exact want_t rfl rfl rfl (by assumption); apply a_move; (conv => (lhs; whnf)); apply r_op; exact rfl; exact want_t rfl rfl rfl (by assumption); apply g_fieldAddr; exact a_fieldAddr1 rfl (by decide) rfl; apply r_op; exact rfl
            exact want_t rfl rfl rfl (by assumption); apply g_load; exact a_load1 rfl rfl; apply r_op; exact rfl; exact want_t rfl rfl rfl (by assumption); apply a_move; (conv => (lhs; whnf)); apply r_op; exact rfl; exact want_t rfl rfl rfl (by assumption); apply a_move; (conv => (lhs; whnf)); apply r_op; exact rfl; exact want_t rfl rfl rfl (by assumption); apply g_binOp
            exact a_sub64 rfl rfl (by omega); apply r_op; exact rfl; exact want_t rfl rfl rfl (by assumption); apply g_indexAddr; exact a_indexAddr rfl rfl (by decide) (by omega) (by exact get_map gp); apply r_op; exact rfl; exact want_t rfl rfl rfl (by assumption); apply g_fieldAddr; exact a_fieldAddr1 rfl (by decide) rfl; apply r_op; exact rfl; exact want_t rfl rfl rfl (by assumption)
            apply g_load; exact a_load1 rfl rfl; apply r_op; exact rfl; exact want_t rfl rfl rfl (by assumption); apply g_binOp; exact a_binS rfl rfl rfl rfl; apply r_op; exact rfl; exact want_t rfl rfl rfl (by assumption); apply g_pick; apply a_pickF rfl (by assumption); (conv => (lhs; whnf)); apply r_op; exact rfl; exact rfl; apply g_pick; apply a_pickT rfl (by assumption); (conv => (lhs; whnf))
            apply r_op; exact rfl; exact rfl; apply a_move; (conv => (lhs; whnf)); refine q_split rfl rfl rfl (fun hg => ?_) (fun hg => ?_); apply r_op; exact rfl; exact want_t rfl rfl rfl (by assumption); apply a_move; (conv => (lhs; whnf)); apply r_op; exact rfl; exact want_t rfl rfl rfl (by assumption); apply g_nilCheck; exact a_nilCheck rfl rfl; apply r_op; exact rfl
            exact want_t rfl rfl rfl (by assumption); apply g_fieldAddr; exact a_fieldAddrP rfl (by decide); apply r_load; exact rfl; exact rfl; exact rfl; decide; exact want_t rfl rfl rfl (by assumption); exact setBox_same; exact aLoad1 rfl; apply r_op; exact rfl; exact want_t rfl rfl rfl (by assumption); apply g_binOp; exact a_nilI rfl rfl (by exact .inl rfl) rfl rfl rfl; apply r_op; exact rfl
            exact rfl; apply g_pick; apply a_pickT rfl (by assumption); (conv => (lhs; whnf)); apply r_op; exact rfl; exact rfl; apply a_assign; (conv => (lhs; whnf)); (with_reducible refine runs_done ?_); refine W.regionL (by decide +kernel) rfl ?_; apply r_op; exact rfl; exact rfl; apply g_binOp; exact a_add64 rfl rfl (by omega); apply r_op; exact rfl; exact rfl; apply a_move; (conv => (lhs; whnf))
            (with_reducible refine runs_done ?_); rotate_left; apply q_skip; exact rfl; exact want_f rfl rfl rfl (by assumption); apply q_skip; exact rfl; exact want_f rfl rfl rfl (by assumption); apply q_skip; exact rfl; exact want_f rfl rfl rfl (by assumption); apply q_skip; exact rfl; exact want_f rfl rfl rfl (by assumption); apply q_skip; exact rfl; exact want_f rfl rfl rfl (by assumption)
            apply r_op; exact rfl; exact rfl; apply g_pick; apply a_pickF rfl (by assumption); (conv => (lhs; whnf)); apply r_op; exact rfl; exact rfl; apply a_assign; (conv => (lhs; whnf)); (with_reducible refine runs_done ?_); refine W.regionL (by decide +kernel) rfl ?_; apply r_op; exact rfl; exact rfl; apply g_binOp; exact a_add64 rfl rfl (by omega); apply r_op; exact rfl; exact rfl; apply a_move
            (conv => (lhs; whnf)); (with_reducible refine runs_done ?_); rotate_left; apply q_skip; exact rfl; exact want_f rfl rfl rfl (by assumption); apply q_skip; exact rfl; exact want_f rfl rfl rfl (by assumption); apply q_skip; exact rfl; exact want_f rfl rfl rfl (by assumption); apply q_skip; exact rfl; exact want_n rfl rfl rfl; apply q_skip; exact rfl; exact want_n rfl rfl rfl; apply q_skip
            exact rfl; exact want_n rfl rfl rfl; apply q_skip; exact rfl; exact want_n rfl rfl rfl; apply q_skip; exact rfl; exact want_n rfl rfl rfl; apply q_skip; exact rfl; exact want_n rfl rfl rfl; apply q_skip; exact rfl; exact want_n rfl rfl rfl; apply q_skip; exact rfl; exact want_n rfl rfl rfl; apply q_skip; exact rfl; exact want_n rfl rfl rfl; apply q_skip; exact rfl
            exact want_f rfl rfl rfl (by assumption); apply r_op; exact rfl; exact rfl; apply g_pick; apply a_pickF rfl (by assumption); (conv => (lhs; whnf)); apply r_op; exact rfl; exact rfl; apply a_move; (conv => (lhs; whnf)); apply q_skip; exact rfl; exact want_f rfl rfl rfl (by exact rfl); apply q_skip; exact rfl; exact want_f rfl rfl rfl (by exact rfl); apply q_skip; exact rfl
            exact want_f rfl rfl rfl (by exact rfl); apply q_skip; exact rfl; exact want_f rfl rfl rfl (by exact rfl); apply q_skip; exact rfl; exact want_f rfl rfl rfl (by exact rfl); apply r_op; exact rfl; exact rfl; apply g_pick; apply a_pickF rfl (by exact rfl); (conv => (lhs; whnf)); apply r_op; exact rfl; exact rfl; apply a_assign; (conv => (lhs; whnf)); (with_reducible refine runs_done ?_)
            refine W.regionL (by decide +kernel) rfl ?_; apply r_op; exact rfl; exact rfl; apply g_binOp; exact a_add64 rfl rfl (by omega); apply r_op; exact rfl; exact rfl; apply a_move; (conv => (lhs; whnf)); (with_reducible refine runs_done ?_); rotate_left
            all_goals refine ⟨l.length - (i + 1), by omega, i + 1, tg, tq, by omega, rfl, by rw [hx]; exact hs2, ?_⟩
            all_goals rw [hgs, hgd]
            all_goals exact Has.by (by repeat (first | exact trivial | refine ⟨by first | trivial | exact Weak.refl _ | exact Weak.tok _ _ _ | exact Weak.of_eq (congrArg (AV.int _) (by omega)) | exact Weak.of_eq (congrArg AV.bool (by (first | (simp_all [gtS]; done) | (simp only [gtS, Option.getD_some]; rw [hg]; simp [hi0]; done) | fail))) | exact Weak.nils _ _ (.inr rfl), ?_⟩))
          | some e =>
            refine W.regionDK 1 [] Ty.mixed (by decide +kernel) (by decide +kernel) rfl ?_; apply r_op; exact rfl; exact rfl; apply a_move; (conv => (lhs; whnf)); apply r_op; exact rfl; exact rfl; apply a_move; (conv => (lhs; whnf)); refine q_split rfl rfl rfl (fun hg => ?_) (fun hg => ?_); apply r_op; exact rfl; exact want_t rfl rfl rfl (by assumption); apply a_move; (conv => (lhs; whnf))
            apply r_op; exact rfl; exact want_t rfl rfl rfl (by assumption); apply g_binOp; exact a_binI rfl rfl rfl; apply r_op; exact rfl; exact want_t rfl rfl rfl (by assumption); apply a_move; (conv => (lhs; whnf)); apply r_op; exact rfl; exact want_t rfl rfl rfl (by assumption); apply g_fieldAddr; exact a_fieldAddr1 rfl (by decide) rfl; apply r_op; exact rfl
            exact want_t rfl rfl rfl (by assumption); apply g_load; exact a_load1 rfl rfl; apply r_op; exact rfl; exact want_t rfl rfl rfl (by assumption); apply a_move; (conv => (lhs; whnf)); apply r_op; exact rfl; exact want_t rfl rfl rfl (by assumption); apply a_move; (conv => (lhs; whnf)); apply r_op; exact rfl; exact want_t rfl rfl rfl (by assumption); apply g_binOp
            exact a_sub64 rfl rfl (by omega); apply r_op; exact rfl; exact want_t rfl rfl rfl (by assumption); apply g_indexAddr; exact a_indexAddr rfl rfl (by decide) (by omega) (by exact get_map gp); apply r_op; exact rfl; exact want_t rfl rfl rfl (by assumption); apply g_fieldAddr; exact a_fieldAddr1 rfl (by decide) rfl; apply r_op; exact rfl; exact want_t rfl rfl rfl (by assumption)
            apply g_load; exact a_load1 rfl rfl; apply r_op; exact rfl; exact want_t rfl rfl rfl (by assumption); apply g_binOp; exact a_binS rfl rfl rfl rfl; apply r_op; exact rfl; exact want_t rfl rfl rfl (by assumption); apply g_pick; apply a_pickF rfl (by assumption); (conv => (lhs; whnf)); apply r_op; exact rfl; exact rfl; apply g_pick; apply a_pickT rfl (by assumption); (conv => (lhs; whnf))
            apply r_op; exact rfl; exact rfl; apply a_move; (conv => (lhs; whnf)); refine q_split rfl rfl rfl (fun hg => ?_) (fun hg => ?_); apply r_op; exact rfl; exact want_t rfl rfl rfl (by assumption); apply a_move; (conv => (lhs; whnf)); apply r_op; exact rfl; exact want_t rfl rfl rfl (by assumption); apply g_nilCheck; exact a_nilCheck rfl rfl; apply r_op; exact rfl
            exact want_t rfl rfl rfl (by assumption); apply g_fieldAddr; exact a_fieldAddrP rfl (by decide); apply r_load; exact rfl; exact rfl; exact rfl; decide; exact want_t rfl rfl rfl (by assumption); exact setBox_same; exact aLoad1 rfl; apply r_op; exact rfl; exact want_t rfl rfl rfl (by assumption); apply g_binOp; exact a_nilI rfl rfl (by exact .inr ⟨_, _, rfl⟩) rfl rfl rfl; apply r_op
            exact rfl; exact rfl; apply g_pick; apply a_pickT rfl (by assumption); (conv => (lhs; whnf)); apply r_op; exact rfl; exact rfl; apply a_assign; (conv => (lhs; whnf)); (with_reducible refine runs_done ?_); refine W.regionL (by decide +kernel) rfl ?_; apply r_op; exact rfl; exact rfl; apply g_binOp; exact a_add64 rfl rfl (by omega); apply r_op; exact rfl; exact rfl; apply a_move
            (conv => (lhs; whnf)); (with_reducible refine runs_done ?_); rotate_left; apply q_skip; exact rfl; exact want_f rfl rfl rfl (by assumption); apply q_skip; exact rfl; exact want_f rfl rfl rfl (by assumption); apply q_skip; exact rfl; exact want_f rfl rfl rfl (by assumption); apply q_skip; exact rfl; exact want_f rfl rfl rfl (by assumption); apply q_skip; exact rfl
            exact want_f rfl rfl rfl (by assumption); apply r_op; exact rfl; exact rfl; apply g_pick; apply a_pickF rfl (by assumption); (conv => (lhs; whnf)); apply r_op; exact rfl; exact rfl; apply a_assign; (conv => (lhs; whnf)); (with_reducible refine runs_done ?_); refine W.regionL (by decide +kernel) rfl ?_; apply r_op; exact rfl; exact rfl; apply g_binOp; exact a_add64 rfl rfl (by omega)
            apply r_op; exact rfl; exact rfl; apply a_move; (conv => (lhs; whnf)); (with_reducible refine runs_done ?_); rotate_left; apply q_skip; exact rfl; exact want_f rfl rfl rfl (by assumption); apply q_skip; exact rfl; exact want_f rfl rfl rfl (by assumption); apply q_skip; exact rfl; exact want_f rfl rfl rfl (by assumption); apply q_skip; exact rfl; exact want_n rfl rfl rfl; apply q_skip
            exact rfl; exact want_n rfl rfl rfl; apply q_skip; exact rfl; exact want_n rfl rfl rfl; apply q_skip; exact rfl; exact want_n rfl rfl rfl; apply q_skip; exact rfl; exact want_n rfl rfl rfl; apply q_skip; exact rfl; exact want_n rfl rfl rfl; apply q_skip; exact rfl; exact want_n rfl rfl rfl; apply q_skip; exact rfl; exact want_n rfl rfl rfl; apply q_skip; exact rfl
            exact want_n rfl rfl rfl; apply q_skip; exact rfl; exact want_f rfl rfl rfl (by assumption); apply r_op; exact rfl; exact rfl; apply g_pick; apply a_pickF rfl (by assumption); (conv => (lhs; whnf)); apply r_op; exact rfl; exact rfl; apply a_move; (conv => (lhs; whnf)); apply q_skip; exact rfl; exact want_f rfl rfl rfl (by exact rfl); apply q_skip; exact rfl
            exact want_f rfl rfl rfl (by exact rfl); apply q_skip; exact rfl; exact want_f rfl rfl rfl (by exact rfl); apply q_skip; exact rfl; exact want_f rfl rfl rfl (by exact rfl); apply q_skip; exact rfl; exact want_f rfl rfl rfl (by exact rfl); apply r_op; exact rfl; exact rfl; apply g_pick; apply a_pickF rfl (by exact rfl); (conv => (lhs; whnf)); apply r_op; exact rfl; exact rfl
            apply a_assign; (conv => (lhs; whnf)); (with_reducible refine runs_done ?_); refine W.regionL (by decide +kernel) rfl ?_; apply r_op; exact rfl; exact rfl; apply g_binOp; exact a_add64 rfl rfl (by omega); apply r_op; exact rfl; exact rfl; apply a_move; (conv => (lhs; whnf)); (with_reducible refine runs_done ?_); rotate_left
            all_goals refine ⟨l.length - (i + 1), by omega, i + 1, tg, tq, by omega, rfl, by rw [hx]; exact hs2, ?_⟩
            all_goals rw [hgs, hgd]
            all_goals exact Has.by (by repeat (first | exact trivial | refine ⟨by first | trivial | exact Weak.refl _ | exact Weak.tok _ _ _ | exact Weak.of_eq (congrArg (AV.int _) (by omega)) | exact Weak.of_eq (congrArg AV.bool (by (first | (simp_all [gtS]; done) | (simp only [gtS, Option.getD_some]; rw [hg]; simp [hi0]; done) | fail))) | exact Weak.nils _ _ (.inr rfl), ?_⟩))
    · have hge : i = l.length := by simp at hc; omega
      subst hge
      refine W.exit ?_
      exact ⟨tg, tq, hs, by exact Has.by (by repeat (first | exact trivial | refine ⟨by first | trivial | exact Weak.refl _ | exact Weak.tok _ _ _ | exact Weak.of_eq (congrArg (AV.int _) (by omega)) | exact Weak.of_eq (congrArg AV.bool (by (first | (simp_all [gtS]; done) | (simp only [gtS, Option.getD_some]; rw [hg]; simp [hi0]; done) | fail))) | exact Weak.nils _ _ (.inr rfl), ?_⟩))⟩
  · rintro E s ⟨tg, tq, hs, hE⟩
    refine W.has hE ?_; clear hE
    have hfit := dRows_fit l l.length (Nat.le_refl _)
    have hgl := hfit.gaps
    rw [List.take_length] at hgl
    have hfits := dSub_fits l hT
    have hac := hfit.acks
    have hdec : dec3 l = if (dRows l l.length).good = true ∧ enc3 (dSub l) = l then (dSub l, 0) else (sub0, 11) := rfl
    have hX : dSub l = { (dRows l l.length).x with acks := runUp (dRows l l.length).x.floor (dRows l l.length).gaps } := rfl
    generalize dRows l l.length = d at hs hfit hgl hac hdec hX ⊢
    generalize dSub l = X at hfits hdec hX
    obtain ⟨x, gaps, good⟩ := d
    dsimp only at hs hgl hac hdec hX ⊢
    have hb := hs.b
    have hr := hs.r
    have hma : Moves σ .full s .full := ⟨hs.mg.box, fun p hp hn => ⟨(hs.mg.keep p hp hn).1, by simp⟩, .inl rfl, hs.mg.obj⟩
    have hb' : s.box b4 = some (subC { x with acks := [] } .full tq) := by rw [hb, ← hac]
    refine W.seq ?_; refine W.regionL (by decide +kernel) rfl ?_; apply r_op; exact rfl; exact rfl; apply g_fieldAddr; exact a_fieldAddrP rfl (by decide); apply r_load; exact rfl; exact rfl; exact rfl; decide; exact rfl; assumption; exact aLoad1 rfl; apply r_op; exact rfl; exact rfl; apply a_assign; (conv => (lhs; whnf)); refine runs_done ?_; show W _ _ _ _ _ _ _; refine W.seq ?_
    refine W.meet (fun E s => ∃ ta, s.box b2 = some z10 ∧ s.box b4 = some (subC X ta tq) ∧ Moves σ .full s ta ∧ Has [(0, eRows l), (2, .ptr b2 0), (3, .int .u16 0), (4, .ptr b4 0), (6, .bool good)] E) ?_ ?_
    · refine W.seq ?_
      refine W.regionL (by decide +kernel) rfl ?_; apply r_op; exact rfl; exact rfl; apply a_move; (conv => (lhs; whnf)); apply r_op; exact rfl; exact rfl; apply g_call; exact a_len_slc rfl; apply r_op; exact rfl; exact rfl; apply a_move; (conv => (lhs; whnf)); (with_reducible refine runs_done ?_); refine W.block ?_
      refine W.loop (fun k E s => ∃ (j : Nat) (acc : List Int) (ta : Tok) (last : Int), j ≤ gaps.length ∧ k = gaps.length - j ∧ acc.length = j ∧ acc ++ runUp last (gaps.drop j) = runUp x.floor gaps ∧ s.box b2 = some z10 ∧ s.box b4 = some (subC { x with acks := acc } ta tq) ∧ Moves σ .full s ta ∧ Has [(0, eRows l), (2, .ptr b2 0), (3, .int .u16 0), (4, .ptr b4 0), (6, .bool good), (16, .int .i64 last), (123, .slc 1 (gaps.map (.int .i64)) .no), (124, .int .i64 gaps.length), (125, .int .i64 j)] E) gaps.length ⟨0, [], .full, x.floor, Nat.zero_le _, rfl, rfl, rfl, hr, hb', hma, ?_⟩ ?_
      · rw [List.length_map]
        exact Has.by (by repeat (first | exact trivial | refine ⟨by first | trivial | exact Weak.refl _ | exact Weak.tok _ _ _ | exact Weak.of_eq (congrArg (AV.int _) (by omega)) | exact Weak.of_eq (congrArg AV.bool (by (first | (simp_all [gtS]; done) | (simp only [gtS, Option.getD_some]; rw [hg]; simp [hi0]; done) | fail))) | exact Weak.nils _ _ (.inr rfl), ?_⟩))
      clear hma hb hb' hr hs s; rintro k E s ⟨j, acc, ta, last, hj, rfl, hal, hacc, hr, hb, hma, hE⟩; refine W.has hE ?_; clear hE; refine W.seq ?_; refine W.regionL (by decide +kernel) rfl ?_; apply r_op; exact rfl; exact rfl; apply g_binOp; exact a_binI rfl rfl rfl; (with_reducible refine runs_done ?_); refine W.seq ?_; refine W.cond rfl (fun hc => ?_) (fun hc => ?_)
      · have hlt : j < gaps.length := by simp at hc; omega
        have ga : gaps[j]? = some gaps[j] := by simp [hlt]
        have hdr : gaps.drop j = gaps[j] :: gaps.drop (j + 1) := List.drop_eq_getElem_cons hlt
        generalize gaps[j] = g at ga hdr
        rw [hdr, runUp] at hacc
        have hal2 : acc.length ≤ 1000000 := by omega
        have hm0 := Moves.refl (σ := s) (tk := ta) hma.room
        refine W.skip ?_; show W _ _ _ _ _ _ _; refine W.seq ?_; refine W.block ?_; refine W.seq ?_; refine W.regionL (by decide +kernel) rfl ?_; apply r_op; exact rfl; exact rfl; apply g_indexAddr; exact a_indexAddr rfl rfl (by decide) (by omega) (by exact get_map ga); apply r_op; exact rfl; exact rfl; apply g_load; exact a_load1 rfl rfl; apply r_op; exact rfl; exact rfl; apply a_assign
        (conv => (lhs; whnf)); (with_reducible refine runs_done ?_); refine W.seq ?_; refine W.regionL (by decide +kernel) rfl ?_; apply r_op; exact rfl; exact rfl; apply a_move; (conv => (lhs; whnf)); apply r_op; exact rfl; exact rfl; apply a_move; (conv => (lhs; whnf)); apply r_op; exact rfl; exact rfl; apply g_binOp; exact a_binI rfl rfl rfl; apply r_op; exact rfl; exact rfl; apply a_assign
        (conv => (lhs; whnf)); (with_reducible refine runs_done ?_); refine W.regionL (by decide +kernel) rfl ?_; apply r_op; exact rfl; exact rfl; apply g_fieldAddr; exact a_fieldAddrP rfl (by decide); apply r_load; exact rfl; exact rfl; exact rfl; decide; exact rfl; assumption; exact aLoad1 rfl; apply r_op; exact rfl; exact rfl; apply a_move; (conv => (lhs; whnf)); apply r_op; exact rfl; exact rfl
        apply g_buildSlice; apply a_build1; (conv => (lhs; whnf)); exact rfl; exact rfl; decide; apply r_append'; exact rfl; exact rfl; decide; infer_instance; exact rfl; exact rfl; exact rfl; exact rfl; exact rfl; assumption
        simp only [length_aBytes, List.length_append, List.length_cons, List.length_nil, List.length_map, List.length_range]
        omega; intro tk1 σ1 hm; apply r_op; exact rfl; exact rfl; apply g_fieldAddr; exact a_fieldAddrP rfl (by decide); apply r_store; exact rfl; exact rfl; exact rfl; decide; infer_instance; exact rfl; apply hb_moves (by assumption); assumption; (conv => (lhs; whnf)); exact rfl; (conv => (lhs; whnf)); exact rfl; exact of_decide_eq_true rfl; exact rfl; (with_reducible refine runs_done ?_)
        refine W.regionL (by decide +kernel) rfl ?_; apply r_op; exact rfl; exact rfl; apply g_binOp; exact a_add64 rfl rfl (by omega); apply r_op; exact rfl; exact rfl; apply a_move; (conv => (lhs; whnf)); (with_reducible refine runs_done ?_)
        have hbox := hm.box _ _ hr
        refine ⟨gaps.length - (j + 1), by omega, j + 1, acc ++ [w64 (last + g)], tk1, w64 (last + g), by omega, rfl, by simp [hal], by rw [List.append_assoc]; exact hacc, hb_ne hne hbox, ?_, (hma.trans hm).new hs4, by exact Has.by (by repeat (first | exact trivial | refine ⟨by first | trivial | exact Weak.refl _ | exact Weak.tok _ _ _ | exact Weak.of_eq (congrArg (AV.int _) (by omega)) | exact Weak.of_eq (congrArg AV.bool (by (first | (simp_all [gtS]; done) | (simp only [gtS, Option.getD_some]; rw [hg]; simp [hi0]; done) | fail))) | exact Weak.nils _ _ (.inr rfl), ?_⟩))⟩
        rw [setBox_same]
        simp only [subC, List.map_append, List.map_cons, List.map_nil]
        rfl
      · have hge : j = gaps.length := by simp at hc; omega
        rw [hge, List.drop_length, runUp, List.append_nil] at hacc
        rw [← hacc] at hX
        subst hX
        refine W.exit ?_
        exact ⟨ta, hr, hb, hma, by exact Has.by (by repeat (first | exact trivial | refine ⟨by first | trivial | exact Weak.refl _ | exact Weak.tok _ _ _ | exact Weak.of_eq (congrArg (AV.int _) (by omega)) | exact Weak.of_eq (congrArg AV.bool (by (first | (simp_all [gtS]; done) | (simp only [gtS, Option.getD_some]; rw [hg]; simp [hi0]; done) | fail))) | exact Weak.nils _ _ (.inr rfl), ?_⟩))⟩
    · rintro E s ⟨ta, hr, hb, hma, hE⟩
      refine W.has hE ?_; clear hE
      have henc : CallP Tryz.prog w0 16 [.agg (subC X ta tq)] (.slc 2 ((enc3 X).map eRow) .no) := fun σ => CallW.weak1 [] [] (weak_sub X ta tq) (encW_room w0 hL X hfits σ).room
      have hlen : (enc3 X).length ≤ 1000000000 := by have := hfits.nqueue; have := preR_len X; rw [enc3_eq]; simp; omega
      have heq := eqRows_any w0 (enc3 X) l .no .no hlen
      clear hfits hX hfit; refine W.seq ?_; refine W.regionL (by decide +kernel) rfl ?_; apply r_op; exact rfl; exact rfl; apply a_assign; (conv => (lhs; whnf)); (with_reducible refine runs_done ?_); refine W.seq ?_; refine W.seq ?_; refine W.regionL (by decide +kernel) rfl ?_; apply r_op; exact rfl; exact rfl; apply a_move; (conv => (lhs; whnf)); apply r_op; exact rfl; exact rfl; apply g_unOp
      exact a_not rfl; apply r_op; exact rfl; exact rfl; apply a_move; (conv => (lhs; whnf)); refine q_split rfl rfl rfl (fun hg => ?_) (fun hg => ?_); apply q_skip; exact rfl; exact want_f rfl rfl rfl (by assumption); apply q_skip; exact rfl; exact want_f rfl rfl rfl (by assumption); apply q_skip; exact rfl; exact want_f rfl rfl rfl (by assumption); apply q_skip; exact rfl
      exact want_f rfl rfl rfl (by assumption); apply q_skip; exact rfl; exact want_f rfl rfl rfl (by assumption); apply q_skip; exact rfl; exact want_f rfl rfl rfl (by assumption); apply r_op; exact rfl; exact rfl; apply g_pick; apply a_pickT rfl (by assumption); (conv => (lhs; whnf)); (with_reducible refine runs_done ?_); refine W.condT rfl (by exact rfl) ?_; refine W.seq ?_
      refine W.regionL (by decide +kernel) rfl ?_; apply r_op; exact rfl; exact rfl; apply g_build; apply a_build; exact EvP.nil
      simp only [aFill, List.getElem?_cons_zero, List.getElem?_cons_succ, AV.cells, List.length_cons, List.length_nil, AV.flat, AV.one, setL, List.set_cons_zero, List.set_cons_succ, Nat.reduceAdd, Nat.reduceLeDiff, Nat.reduceMul, and_self, if_true, ↓reduceIte, Nat.zero_add, Nat.le_refl, List.range, List.range.loop, List.map_cons, List.map_nil, Nat.zero_le]
      rfl; apply r_store; exact rfl; exact rfl; exact rfl; decide; infer_instance; exact rfl; assumption; (conv => (lhs; whnf)); exact rfl; (conv => (lhs; whnf)); exact rfl; exact of_decide_eq_true rfl; exact setL_whole rfl; apply r_op; exact rfl; exact rfl; apply a_assign; (conv => (lhs; whnf)); (with_reducible refine runs_done ?_); refine W.ret ?_; show Q Exit.ret _ _
      refine post_le (σ' := σ) (r := .tup [eSub (dec3 l).1, .int .u16 (dec3 l).2]) hQ (by apply res_cell; exact rfl; exact setBox_same; exact aLoadA rfl (by rfl) rfl; apply res_tmp; exact rfl; exact res_nil) rfl ?_ ?_ ⟨rfl, rfl⟩ (.inl rfl); rotate_left; rotate_left; apply r_load; exact rfl; exact rfl; exact rfl; decide; exact want_t rfl rfl rfl (by assumption); assumption
      exact aLoadA rfl (by rfl) rfl; apply r_callP; exact rfl; exact rfl; exact want_t rfl rfl rfl (by assumption); exact rfl; exact rfl; infer_instance; exact henc; apply r_op; exact rfl; exact want_t rfl rfl rfl (by assumption); apply a_move; (conv => (lhs; whnf)); apply r_op; exact rfl; exact want_t rfl rfl rfl (by assumption); apply a_move; (conv => (lhs; whnf)); apply r_callP; exact rfl
      exact rfl; exact want_t rfl rfl rfl (by assumption); exact rfl; exact rfl; infer_instance; exact heq; apply r_op; exact rfl; exact want_t rfl rfl rfl (by assumption); apply g_unOp; exact a_not rfl; apply r_op; exact rfl; exact rfl; apply g_pick; apply a_pickF rfl (by assumption); (conv => (lhs; whnf)); (with_reducible refine runs_done ?_); refine W.cond rfl (fun hc => ?_) (fun hc => ?_)
      refine W.seq ?_; refine W.regionL (by decide +kernel) rfl ?_; apply r_op; exact rfl; exact rfl; apply g_build; apply a_build; exact EvP.nil
      simp only [aFill, List.getElem?_cons_zero, List.getElem?_cons_succ, AV.cells, List.length_cons, List.length_nil, AV.flat, AV.one, setL, List.set_cons_zero, List.set_cons_succ, Nat.reduceAdd, Nat.reduceLeDiff, Nat.reduceMul, and_self, if_true, ↓reduceIte, Nat.zero_add, Nat.le_refl, List.range, List.range.loop, List.map_cons, List.map_nil, Nat.zero_le]
      rfl; apply r_store; exact rfl; exact rfl; exact rfl; decide; infer_instance; exact rfl; assumption; (conv => (lhs; whnf)); exact rfl; (conv => (lhs; whnf)); exact rfl; exact of_decide_eq_true rfl; exact setL_whole rfl; apply r_op; exact rfl; exact rfl; apply a_assign; (conv => (lhs; whnf)); (with_reducible refine runs_done ?_); refine W.ret ?_; show Q Exit.ret _ _
      refine post_le (σ' := σ) (r := .tup [eSub (dec3 l).1, .int .u16 (dec3 l).2]) hQ (by apply res_cell; exact rfl; exact setBox_same; exact aLoadA rfl (by rfl) rfl; apply res_tmp; exact rfl; exact res_nil) rfl ?_ ?_ ⟨rfl, rfl⟩ (.inl rfl); rotate_left; rotate_left; refine W.skip ?_; show W _ _ _ _ _ _ _; refine W.seq ?_; refine W.regionL (by decide +kernel) rfl ?_; apply r_load; exact rfl
      exact rfl; exact rfl; decide; exact rfl; assumption; exact aLoadA rfl (by rfl) rfl; apply r_store; exact rfl; exact rfl; exact rfl; decide; infer_instance; exact rfl; assumption; (conv => (lhs; whnf)); exact rfl; (conv => (lhs; whnf)); exact rfl; exact of_decide_eq_true rfl; exact setL_whole rfl; apply r_op; exact rfl; exact rfl; apply a_assign; (conv => (lhs; whnf))
      (with_reducible refine runs_done ?_); refine W.ret ?_; show Q Exit.ret _ _; refine post_le (σ' := σ) (r := .tup [eSub (dec3 l).1, .int .u16 (dec3 l).2]) hQ (by apply res_cell; exact rfl; exact setBox_same; exact aLoadA rfl (by rfl) rfl; apply res_tmp; exact rfl; exact res_nil) rfl ?_ ?_ ⟨rfl, rfl⟩ (.inl rfl); rotate_left; rotate_left
      · rw [hdec, if_neg (fun h => by rw [h.1] at hg; cases hg)]
        exact .tup (.cons weak_z0 (.cons (.refl _) .nil))
      · exact le_setBox hma.le hb2
      · rw [hdec, if_neg (fun h => by rw [h.2] at hc; simp at hc)]
        exact .tup (.cons weak_z0 (.cons (.refl _) .nil))
      · exact le_setBox hma.le hb2
      · rw [hdec, if_pos ⟨by simpa using hg, by simpa using hc⟩]
        exact .tup (.cons (weak_sub X ta tq) (.cons (.refl _) .nil))
      · exact le_setBox hma.le hb2
end Go.Proofs.YtkbmkhhcppfcnaaGreatDoor
end
section
set_option linter.unusedVariables false
set_option linter.unusedSimpArgs false
set_option maxRecDepth 100000
set_option maxHeartbeats 4000000
namespace Go.Proofs.YtkbmkhhcppfcnaaGreatDoor
open Go.Al Go.RowKit
instance : FlatEq Tryz.prog 46 := ⟨⟨_, Tryz.underlying46⟩, by kernel_rfl, by kernel_rfl⟩
theorem flat_msg (m : Msg) {fs : List Field} (h : Tryz.prog.underlying 46 = some (.struct fs.toArray)) : flatFrom Tryz.prog 0 fs (eMsg m).cells = true := by
  rw [Tryz.underlying46] at h
  simp only [Option.some.injEq, TypeDesc.struct.injEq] at h
  have h := congrArg Array.toList h
  simp only [List.toList_toArray] at h
  subst h
  simp [flatFrom, eMsg, AV.cells, cellD, Tryz.underlying3, Tryz.underlying9, Tryz.underlying4]
theorem eq_msg (m n : Msg) : eqCells (eMsg m).cells (eMsg n).cells = some (decide (m = n)) := by
  simp only [eMsg, AV.cells, eqCells, eqCell, if_true]
  obtain ⟨a1, a2, a3, a4, a5, a6, a7, a8⟩ := m
  obtain ⟨b1, b2, b3, b4, b5, b6, b7, b8⟩ := n
  congr 1
  rw [Bool.eq_iff_iff]
  simp only [Bool.and_eq_true, beq_iff_eq, decide_eq_true_eq, Msg.mk.injEq, Bool.and_true, and_true]
theorem sameMsgs_any (w0 : Base) (a b : List Msg) (ta tb : Tok) (ha : a.length ≤ 1000000000) : CallP Tryz.prog w0 61 [.slc 8 (a.map eMsg) ta, .slc 8 (b.map eMsg) tb] (.bool (decide (a = b))) := by
  refine CallP.start Tryz.func61 rfl Tryz.ntmps61 (by simp) fun σ Q hQ => ?_
  refine W.seq ?_; refine W.regionL (by decide +kernel) rfl ?_; apply r_op; exact rfl; exact rfl; apply a_assign; (conv => (lhs; whnf)); (with_reducible refine runs_done ?_); refine W.seq ?_; refine W.seq ?_; refine W.regionL (by decide +kernel) rfl ?_; apply r_op; exact rfl; exact rfl; apply a_move; (conv => (lhs; whnf)); apply r_op; exact rfl; exact rfl; apply g_call; exact a_len_slc rfl
  apply r_op; exact rfl; exact rfl; apply a_move; (conv => (lhs; whnf)); apply r_op; exact rfl; exact rfl; apply g_call; exact a_len_slc rfl; apply r_op; exact rfl; exact rfl; apply g_binOp; exact a_binI rfl rfl rfl; (with_reducible refine runs_done ?_); refine W.cond rfl (fun hc => ?_) (fun hc => ?_); refine W.seq ?_; refine W.regionL (by decide +kernel) rfl ?_; apply r_op; exact rfl; exact rfl
  apply a_assign; (conv => (lhs; whnf)); (with_reducible refine runs_done ?_); refine W.ret ?_; show Q Exit.ret _ _; refine post_q hQ (by apply res_tmp; exact rfl; exact res_nil) (.inl rfl) (by exact .refl _) ?_; (conv => (lhs; whnf)); rotate_left; refine W.skip ?_; show W _ _ _ _ _ _ _; refine W.seq ?_; refine W.seq ?_; refine W.regionL (by decide +kernel) rfl ?_; apply r_op; exact rfl; exact rfl
  apply a_assign; (conv => (lhs; whnf)); (with_reducible refine runs_done ?_); refine W.block ?_; rotate_left
  · have : ¬ a = b := by rintro rfl; simp at hc
    simp [this]
  · have hlen : a.length = b.length := by simp at hc; omega
    clear hc
    refine W.loop (fun k E s => ∃ i : Nat, i ≤ a.length ∧ k = a.length - i ∧ s = σ ∧ a.take i = b.take i ∧ Has [(0, .slc 8 (a.map eMsg) .no), (1, .slc 8 (b.map eMsg) .no), (5, .int .i64 i)] E) a.length ⟨0, Nat.zero_le _, rfl, rfl, by simp, by exact Has.by (by repeat (first | exact trivial | refine ⟨by first | trivial | exact Weak.refl _ | exact Weak.tok _ _ _ | exact Weak.of_eq (congrArg (AV.int _) (by omega)) | exact Weak.of_eq (congrArg AV.bool (by fail)) | exact Weak.nils _ _ (.inr rfl), ?_⟩))⟩ ?_
    rintro k E s ⟨i, hi, rfl, rfl, htk, hE⟩; refine W.has hE ?_; clear hE; refine W.seq ?_; refine W.seq ?_; refine W.regionL (by decide +kernel) rfl ?_; apply r_op; exact rfl; exact rfl; apply a_move; (conv => (lhs; whnf)); apply r_op; exact rfl; exact rfl; apply a_move; (conv => (lhs; whnf)); apply r_op; exact rfl; exact rfl; apply g_call; exact a_len_slc rfl; apply r_op; exact rfl; exact rfl
    apply g_binOp; exact a_binI rfl rfl rfl; (with_reducible refine runs_done ?_); refine W.cond rfl (fun hc => ?_) (fun hc => ?_)
    · have hlt : i < a.length := by simp at hc; omega
      have ga : a[i]? = some a[i] := by simp [hlt]
      have gb : b[i]? = some (b[i]'(by omega)) := List.getElem?_eq_getElem (by omega)
      have ht := take_succ_iff hlt (show i < b.length by omega) htk
      generalize a[i] = x at ga ht
      generalize b[i]'(by omega) = y at gb ht
      refine W.skip ?_; show W _ _ _ _ _ _ _; refine W.seq ?_; refine W.block ?_; refine W.seq ?_; refine W.regionDK 1 [] Ty.mixed (by decide +kernel) (by decide +kernel) rfl ?_; apply r_op; exact rfl; exact rfl; apply a_move; (conv => (lhs; whnf)); apply r_op; exact rfl; exact rfl; apply a_move; (conv => (lhs; whnf)); apply r_op; exact rfl; exact rfl; apply g_indexAddr
      exact a_indexAddr rfl rfl (by decide) (by omega) (by exact get_map ga); apply r_op; exact rfl; exact rfl; apply g_load; exact a_loadA rfl (by rfl) rfl; apply r_op; exact rfl; exact rfl; apply a_move; (conv => (lhs; whnf)); apply r_op; exact rfl; exact rfl; apply a_move; (conv => (lhs; whnf)); apply r_op; exact rfl; exact rfl; apply g_indexAddr
      exact a_indexAddr rfl rfl (by decide) (by omega) (by exact get_map gb); apply r_op; exact rfl; exact rfl; apply g_load; exact a_loadA rfl (by rfl) rfl; apply r_eqAgg; exact rfl; exact rfl; exact rfl; exact rfl; infer_instance; exact rfl; intro fs hfs; exact flat_msg _ hfs; exact eq_msg _ _; exact rfl; (with_reducible refine runs_done ?_); refine W.cond rfl (fun hc => ?_) (fun hc => ?_)
      refine W.seq ?_; refine W.regionL (by decide +kernel) rfl ?_; apply r_op; exact rfl; exact rfl; apply a_assign; (conv => (lhs; whnf)); (with_reducible refine runs_done ?_); refine W.ret ?_; show Q Exit.ret _ _; refine post_q hQ (by apply res_tmp; exact rfl; exact res_nil) (.inl rfl) (by exact .refl _) ?_; (conv => (lhs; whnf)); rotate_left; refine W.skip ?_; show W _ _ _ _ _ _ _
      refine W.regionL (by decide +kernel) rfl ?_; apply r_op; exact rfl; exact rfl; apply a_move; (conv => (lhs; whnf)); apply r_op; exact rfl; exact rfl; apply g_binOp; exact a_add64 rfl rfl (by omega); apply r_op; exact rfl; exact rfl; apply a_assign; (conv => (lhs; whnf)); (with_reducible refine runs_done ?_); rotate_left
      · have : ¬ a = b := fun e => by subst e; rw [ga] at gb; cases gb; simp at hc
        simp [this]
      · have hxy : x = y := by simpa using hc
        exact ⟨a.length - (i + 1), by omega, i + 1, by omega, rfl, rfl, ht.2 hxy, by exact Has.by (by repeat (first | exact trivial | refine ⟨by first | trivial | exact Weak.refl _ | exact Weak.tok _ _ _ | exact Weak.of_eq (congrArg (AV.int _) (by omega)) | exact Weak.of_eq (congrArg AV.bool (by fail)) | exact Weak.nils _ _ (.inr rfl), ?_⟩))⟩
    · have hge : i = a.length := by simp at hc; omega
      refine W.exit ?_; show W _ _ _ _ _ _ _; refine W.seq ?_; refine W.regionL (by decide +kernel) rfl ?_; apply r_op; exact rfl; exact rfl; apply a_assign; (conv => (lhs; whnf)); (with_reducible refine runs_done ?_); refine W.ret ?_; show Q Exit.ret _ _; refine post_q hQ (by apply res_tmp; exact rfl; exact res_nil) (.inl rfl) (by exact .refl _) ?_; (conv => (lhs; whnf))
      have : a = b := by rw [hge, List.take_length, hlen, List.take_length] at htk; exact htk
      simp [this]
theorem sub_ext {x y : Sub} (h1 : x.id = y.id) (h2 : x.name = y.name) (h3 : x.topic = y.topic) (h4 : x.want = y.want) (h5 : x.lease = y.lease) (h6 : x.most = y.most) (h7 : x.floor = y.floor) (h8 : x.acks = y.acks) (h9 : x.queue = y.queue) (h10 : x.note = y.note) : x = y := by
  cases x; cases y; simp_all
theorem sameSub_any (w0 : Base) (x y : Sub) (hq : x.queue.length ≤ 1000000000) (ha : x.acks.length ≤ 1000000000) : CallP Tryz.prog w0 18 [eSub x, eSub y] (.bool (decide (x = y))) := by
  refine CallP.start Tryz.func18 rfl Tryz.ntmps18 (by simp) fun σ Q hQ => ?_
  refine W.seq ?_; refine W.regionL (by decide +kernel) rfl ?_; apply r_boxF; exact rfl; exact rfl; exact rfl; (conv => (lhs; whnf)); exact rfl; apply r_boxF; exact rfl; exact rfl; exact rfl; (conv => (lhs; whnf)); exact rfl; apply r_op; exact rfl; exact rfl; apply a_assign; (conv => (lhs; whnf)); (with_reducible refine runs_done ?_); refine W.seq ?_; refine W.seq ?_
  refine W.regionL (by decide +kernel) rfl ?_; apply r_op; exact rfl; exact rfl; apply g_fieldAddr; exact a_fieldAddr1 rfl (by decide) rfl; apply r_op; exact rfl; exact rfl; apply g_load; exact a_load1 rfl rfl; apply r_op; exact rfl; exact rfl; apply g_fieldAddr; exact a_fieldAddr1 rfl (by decide) rfl; apply r_op; exact rfl; exact rfl; apply g_load; exact a_load1 rfl rfl; apply r_op; exact rfl
  exact rfl; apply g_binOp; exact a_binI rfl rfl rfl; apply r_op; exact rfl; exact rfl; apply a_move; (conv => (lhs; whnf)); refine q_split rfl rfl rfl (fun hg => ?_) (fun hg => ?_); apply q_skip; exact rfl; exact want_f rfl rfl rfl (by assumption); apply q_skip; exact rfl; exact want_f rfl rfl rfl (by assumption); apply q_skip; exact rfl; exact want_f rfl rfl rfl (by assumption); apply q_skip
  exact rfl; exact want_f rfl rfl rfl (by assumption); apply q_skip; exact rfl; exact want_f rfl rfl rfl (by assumption); apply r_op; exact rfl; exact rfl; apply g_pick; apply a_pickT rfl (by assumption); (conv => (lhs; whnf)); apply r_op; exact rfl; exact rfl; apply a_move; (conv => (lhs; whnf)); apply q_skip; exact rfl; exact want_f rfl rfl rfl (by exact rfl); apply q_skip; exact rfl
  exact want_f rfl rfl rfl (by exact rfl); apply q_skip; exact rfl; exact want_f rfl rfl rfl (by exact rfl); apply q_skip; exact rfl; exact want_f rfl rfl rfl (by exact rfl); apply q_skip; exact rfl; exact want_f rfl rfl rfl (by exact rfl); apply r_op; exact rfl; exact rfl; apply g_pick; apply a_pickT rfl (by exact rfl); (conv => (lhs; whnf)); apply r_op; exact rfl; exact rfl; apply a_move
  (conv => (lhs; whnf)); apply q_skip; exact rfl; exact want_f rfl rfl rfl (by exact rfl); apply q_skip; exact rfl; exact want_f rfl rfl rfl (by exact rfl); apply q_skip; exact rfl; exact want_f rfl rfl rfl (by exact rfl); apply q_skip; exact rfl; exact want_f rfl rfl rfl (by exact rfl); apply q_skip; exact rfl; exact want_f rfl rfl rfl (by exact rfl); apply r_op; exact rfl; exact rfl; apply g_pick
  apply a_pickT rfl (by exact rfl); (conv => (lhs; whnf)); apply r_op; exact rfl; exact rfl; apply a_move; (conv => (lhs; whnf)); apply q_skip; exact rfl; exact want_f rfl rfl rfl (by exact rfl); apply q_skip; exact rfl; exact want_f rfl rfl rfl (by exact rfl); apply q_skip; exact rfl; exact want_f rfl rfl rfl (by exact rfl); apply q_skip; exact rfl; exact want_f rfl rfl rfl (by exact rfl)
  apply q_skip; exact rfl; exact want_f rfl rfl rfl (by exact rfl); apply r_op; exact rfl; exact rfl; apply g_pick; apply a_pickT rfl (by exact rfl); (conv => (lhs; whnf)); apply r_op; exact rfl; exact rfl; apply a_move; (conv => (lhs; whnf)); apply q_skip; exact rfl; exact want_f rfl rfl rfl (by exact rfl); apply q_skip; exact rfl; exact want_f rfl rfl rfl (by exact rfl); apply q_skip; exact rfl
  exact want_f rfl rfl rfl (by exact rfl); apply q_skip; exact rfl; exact want_f rfl rfl rfl (by exact rfl); apply q_skip; exact rfl; exact want_f rfl rfl rfl (by exact rfl); apply r_op; exact rfl; exact rfl; apply g_pick; apply a_pickT rfl (by exact rfl); (conv => (lhs; whnf)); apply r_op; exact rfl; exact rfl; apply a_move; (conv => (lhs; whnf)); apply q_skip; exact rfl
  exact want_f rfl rfl rfl (by exact rfl); apply q_skip; exact rfl; exact want_f rfl rfl rfl (by exact rfl); apply q_skip; exact rfl; exact want_f rfl rfl rfl (by exact rfl); apply q_skip; exact rfl; exact want_f rfl rfl rfl (by exact rfl); apply q_skip; exact rfl; exact want_f rfl rfl rfl (by exact rfl); apply r_op; exact rfl; exact rfl; apply g_pick; apply a_pickT rfl (by exact rfl)
  (conv => (lhs; whnf)); apply r_op; exact rfl; exact rfl; apply a_move; (conv => (lhs; whnf)); apply q_skip; exact rfl; exact want_f rfl rfl rfl (by exact rfl); apply q_skip; exact rfl; exact want_f rfl rfl rfl (by exact rfl); apply q_skip; exact rfl; exact want_f rfl rfl rfl (by exact rfl); apply q_skip; exact rfl; exact want_f rfl rfl rfl (by exact rfl); apply q_skip; exact rfl
  exact want_f rfl rfl rfl (by exact rfl); apply r_op; exact rfl; exact rfl; apply g_pick; apply a_pickT rfl (by exact rfl); (conv => (lhs; whnf)); apply r_op; exact rfl; exact rfl; apply a_move; (conv => (lhs; whnf)); apply q_skip; exact rfl; exact want_f rfl rfl rfl (by exact rfl); apply q_skip; exact rfl; exact want_f rfl rfl rfl (by exact rfl); apply q_skip; exact rfl
  exact want_f rfl rfl rfl (by exact rfl); apply q_skip; exact rfl; exact want_f rfl rfl rfl (by exact rfl); apply q_skip; exact rfl; exact want_f rfl rfl rfl (by exact rfl); apply q_skip; exact rfl; exact want_f rfl rfl rfl (by exact rfl); apply q_skip; exact rfl; exact want_f rfl rfl rfl (by exact rfl); apply r_op; exact rfl; exact rfl; apply g_pick; apply a_pickT rfl (by exact rfl)
  (conv => (lhs; whnf)); (with_reducible refine runs_done ?_); refine W.condT rfl (by exact rfl) ?_; refine W.seq ?_; refine W.regionL (by decide +kernel) rfl ?_; apply r_op; exact rfl; exact rfl; apply a_assign; (conv => (lhs; whnf)); (with_reducible refine runs_done ?_); refine W.ret ?_; show Q Exit.ret _ _
  refine post_q hQ (by apply res_tmp; exact rfl; exact res_nil) (.inl rfl) (by exact .refl _) ?_; (conv => (lhs; whnf)); rotate_left; apply r_op; exact rfl; exact want_t rfl rfl rfl (by assumption); apply g_fieldAddr; exact a_fieldAddr1 rfl (by decide) rfl; apply r_op; exact rfl; exact want_t rfl rfl rfl (by assumption); apply g_load; exact a_load1 rfl rfl; apply r_op; exact rfl
  exact want_t rfl rfl rfl (by assumption); apply g_fieldAddr; exact a_fieldAddr1 rfl (by decide) rfl; apply r_op; exact rfl; exact want_t rfl rfl rfl (by assumption); apply g_load; exact a_load1 rfl rfl; apply r_op; exact rfl; exact want_t rfl rfl rfl (by assumption); apply g_binOp; exact a_binS rfl rfl rfl rfl; apply r_op; exact rfl; exact rfl; apply g_pick; apply a_pickF rfl (by assumption)
  (conv => (lhs; whnf)); apply r_op; exact rfl; exact rfl; apply a_move; (conv => (lhs; whnf)); refine q_split rfl rfl rfl (fun hg => ?_) (fun hg => ?_); apply q_skip; exact rfl; exact want_f rfl rfl rfl (by assumption); apply q_skip; exact rfl; exact want_f rfl rfl rfl (by assumption); apply q_skip; exact rfl; exact want_f rfl rfl rfl (by assumption); apply q_skip; exact rfl
  exact want_f rfl rfl rfl (by assumption); apply q_skip; exact rfl; exact want_f rfl rfl rfl (by assumption); apply r_op; exact rfl; exact rfl; apply g_pick; apply a_pickT rfl (by assumption); (conv => (lhs; whnf)); apply r_op; exact rfl; exact rfl; apply a_move; (conv => (lhs; whnf)); apply q_skip; exact rfl; exact want_f rfl rfl rfl (by exact rfl); apply q_skip; exact rfl
  exact want_f rfl rfl rfl (by exact rfl); apply q_skip; exact rfl; exact want_f rfl rfl rfl (by exact rfl); apply q_skip; exact rfl; exact want_f rfl rfl rfl (by exact rfl); apply q_skip; exact rfl; exact want_f rfl rfl rfl (by exact rfl); apply r_op; exact rfl; exact rfl; apply g_pick; apply a_pickT rfl (by exact rfl); (conv => (lhs; whnf)); apply r_op; exact rfl; exact rfl; apply a_move
  (conv => (lhs; whnf)); apply q_skip; exact rfl; exact want_f rfl rfl rfl (by exact rfl); apply q_skip; exact rfl; exact want_f rfl rfl rfl (by exact rfl); apply q_skip; exact rfl; exact want_f rfl rfl rfl (by exact rfl); apply q_skip; exact rfl; exact want_f rfl rfl rfl (by exact rfl); apply q_skip; exact rfl; exact want_f rfl rfl rfl (by exact rfl); apply r_op; exact rfl; exact rfl; apply g_pick
  apply a_pickT rfl (by exact rfl); (conv => (lhs; whnf)); apply r_op; exact rfl; exact rfl; apply a_move; (conv => (lhs; whnf)); apply q_skip; exact rfl; exact want_f rfl rfl rfl (by exact rfl); apply q_skip; exact rfl; exact want_f rfl rfl rfl (by exact rfl); apply q_skip; exact rfl; exact want_f rfl rfl rfl (by exact rfl); apply q_skip; exact rfl; exact want_f rfl rfl rfl (by exact rfl)
  apply q_skip; exact rfl; exact want_f rfl rfl rfl (by exact rfl); apply r_op; exact rfl; exact rfl; apply g_pick; apply a_pickT rfl (by exact rfl); (conv => (lhs; whnf)); apply r_op; exact rfl; exact rfl; apply a_move; (conv => (lhs; whnf)); apply q_skip; exact rfl; exact want_f rfl rfl rfl (by exact rfl); apply q_skip; exact rfl; exact want_f rfl rfl rfl (by exact rfl); apply q_skip; exact rfl
  exact want_f rfl rfl rfl (by exact rfl); apply q_skip; exact rfl; exact want_f rfl rfl rfl (by exact rfl); apply q_skip; exact rfl; exact want_f rfl rfl rfl (by exact rfl); apply r_op; exact rfl; exact rfl; apply g_pick; apply a_pickT rfl (by exact rfl); (conv => (lhs; whnf)); apply r_op; exact rfl; exact rfl; apply a_move; (conv => (lhs; whnf)); apply q_skip; exact rfl
  exact want_f rfl rfl rfl (by exact rfl); apply q_skip; exact rfl; exact want_f rfl rfl rfl (by exact rfl); apply q_skip; exact rfl; exact want_f rfl rfl rfl (by exact rfl); apply q_skip; exact rfl; exact want_f rfl rfl rfl (by exact rfl); apply q_skip; exact rfl; exact want_f rfl rfl rfl (by exact rfl); apply r_op; exact rfl; exact rfl; apply g_pick; apply a_pickT rfl (by exact rfl)
  (conv => (lhs; whnf)); apply r_op; exact rfl; exact rfl; apply a_move; (conv => (lhs; whnf)); apply q_skip; exact rfl; exact want_f rfl rfl rfl (by exact rfl); apply q_skip; exact rfl; exact want_f rfl rfl rfl (by exact rfl); apply q_skip; exact rfl; exact want_f rfl rfl rfl (by exact rfl); apply q_skip; exact rfl; exact want_f rfl rfl rfl (by exact rfl); apply q_skip; exact rfl
  exact want_f rfl rfl rfl (by exact rfl); apply q_skip; exact rfl; exact want_f rfl rfl rfl (by exact rfl); apply q_skip; exact rfl; exact want_f rfl rfl rfl (by exact rfl); apply r_op; exact rfl; exact rfl; apply g_pick; apply a_pickT rfl (by exact rfl); (conv => (lhs; whnf)); (with_reducible refine runs_done ?_); refine W.condT rfl (by exact rfl) ?_; refine W.seq ?_
  refine W.regionL (by decide +kernel) rfl ?_; apply r_op; exact rfl; exact rfl; apply a_assign; (conv => (lhs; whnf)); (with_reducible refine runs_done ?_); refine W.ret ?_; show Q Exit.ret _ _; refine post_q hQ (by apply res_tmp; exact rfl; exact res_nil) (.inl rfl) (by exact .refl _) ?_; (conv => (lhs; whnf)); rotate_left; apply r_op; exact rfl; exact want_t rfl rfl rfl (by assumption)
  apply g_fieldAddr; exact a_fieldAddr1 rfl (by decide) rfl; apply r_op; exact rfl; exact want_t rfl rfl rfl (by assumption); apply g_load; exact a_load1 rfl rfl; apply r_op; exact rfl; exact want_t rfl rfl rfl (by assumption); apply g_fieldAddr; exact a_fieldAddr1 rfl (by decide) rfl; apply r_op; exact rfl; exact want_t rfl rfl rfl (by assumption); apply g_load; exact a_load1 rfl rfl; apply r_op
  exact rfl; exact want_t rfl rfl rfl (by assumption); apply g_binOp; exact a_binS rfl rfl rfl rfl; apply r_op; exact rfl; exact rfl; apply g_pick; apply a_pickF rfl (by assumption); (conv => (lhs; whnf)); apply r_op; exact rfl; exact rfl; apply a_move; (conv => (lhs; whnf)); refine q_split rfl rfl rfl (fun hg => ?_) (fun hg => ?_); apply q_skip; exact rfl; exact want_f rfl rfl rfl (by assumption)
  apply q_skip; exact rfl; exact want_f rfl rfl rfl (by assumption); apply q_skip; exact rfl; exact want_f rfl rfl rfl (by assumption); apply q_skip; exact rfl; exact want_f rfl rfl rfl (by assumption); apply q_skip; exact rfl; exact want_f rfl rfl rfl (by assumption); apply r_op; exact rfl; exact rfl; apply g_pick; apply a_pickT rfl (by assumption); (conv => (lhs; whnf)); apply r_op; exact rfl
  exact rfl; apply a_move; (conv => (lhs; whnf)); apply q_skip; exact rfl; exact want_f rfl rfl rfl (by exact rfl); apply q_skip; exact rfl; exact want_f rfl rfl rfl (by exact rfl); apply q_skip; exact rfl; exact want_f rfl rfl rfl (by exact rfl); apply q_skip; exact rfl; exact want_f rfl rfl rfl (by exact rfl); apply q_skip; exact rfl; exact want_f rfl rfl rfl (by exact rfl); apply r_op; exact rfl
  exact rfl; apply g_pick; apply a_pickT rfl (by exact rfl); (conv => (lhs; whnf)); apply r_op; exact rfl; exact rfl; apply a_move; (conv => (lhs; whnf)); apply q_skip; exact rfl; exact want_f rfl rfl rfl (by exact rfl); apply q_skip; exact rfl; exact want_f rfl rfl rfl (by exact rfl); apply q_skip; exact rfl; exact want_f rfl rfl rfl (by exact rfl); apply q_skip; exact rfl
  exact want_f rfl rfl rfl (by exact rfl); apply q_skip; exact rfl; exact want_f rfl rfl rfl (by exact rfl); apply r_op; exact rfl; exact rfl; apply g_pick; apply a_pickT rfl (by exact rfl); (conv => (lhs; whnf)); apply r_op; exact rfl; exact rfl; apply a_move; (conv => (lhs; whnf)); apply q_skip; exact rfl; exact want_f rfl rfl rfl (by exact rfl); apply q_skip; exact rfl
  exact want_f rfl rfl rfl (by exact rfl); apply q_skip; exact rfl; exact want_f rfl rfl rfl (by exact rfl); apply q_skip; exact rfl; exact want_f rfl rfl rfl (by exact rfl); apply q_skip; exact rfl; exact want_f rfl rfl rfl (by exact rfl); apply r_op; exact rfl; exact rfl; apply g_pick; apply a_pickT rfl (by exact rfl); (conv => (lhs; whnf)); apply r_op; exact rfl; exact rfl; apply a_move
  (conv => (lhs; whnf)); apply q_skip; exact rfl; exact want_f rfl rfl rfl (by exact rfl); apply q_skip; exact rfl; exact want_f rfl rfl rfl (by exact rfl); apply q_skip; exact rfl; exact want_f rfl rfl rfl (by exact rfl); apply q_skip; exact rfl; exact want_f rfl rfl rfl (by exact rfl); apply q_skip; exact rfl; exact want_f rfl rfl rfl (by exact rfl); apply r_op; exact rfl; exact rfl; apply g_pick
  apply a_pickT rfl (by exact rfl); (conv => (lhs; whnf)); apply r_op; exact rfl; exact rfl; apply a_move; (conv => (lhs; whnf)); apply q_skip; exact rfl; exact want_f rfl rfl rfl (by exact rfl); apply q_skip; exact rfl; exact want_f rfl rfl rfl (by exact rfl); apply q_skip; exact rfl; exact want_f rfl rfl rfl (by exact rfl); apply q_skip; exact rfl; exact want_f rfl rfl rfl (by exact rfl)
  apply q_skip; exact rfl; exact want_f rfl rfl rfl (by exact rfl); apply q_skip; exact rfl; exact want_f rfl rfl rfl (by exact rfl); apply q_skip; exact rfl; exact want_f rfl rfl rfl (by exact rfl); apply r_op; exact rfl; exact rfl; apply g_pick; apply a_pickT rfl (by exact rfl); (conv => (lhs; whnf)); (with_reducible refine runs_done ?_); refine W.condT rfl (by exact rfl) ?_; refine W.seq ?_
  refine W.regionL (by decide +kernel) rfl ?_; apply r_op; exact rfl; exact rfl; apply a_assign; (conv => (lhs; whnf)); (with_reducible refine runs_done ?_); refine W.ret ?_; show Q Exit.ret _ _; refine post_q hQ (by apply res_tmp; exact rfl; exact res_nil) (.inl rfl) (by exact .refl _) ?_; (conv => (lhs; whnf)); rotate_left; apply r_op; exact rfl; exact want_t rfl rfl rfl (by assumption)
  apply g_fieldAddr; exact a_fieldAddr1 rfl (by decide) rfl; apply r_op; exact rfl; exact want_t rfl rfl rfl (by assumption); apply g_load; exact a_load1 rfl rfl; apply r_op; exact rfl; exact want_t rfl rfl rfl (by assumption); apply g_fieldAddr; exact a_fieldAddr1 rfl (by decide) rfl; apply r_op; exact rfl; exact want_t rfl rfl rfl (by assumption); apply g_load; exact a_load1 rfl rfl; apply r_op
  exact rfl; exact want_t rfl rfl rfl (by assumption); apply g_binOp; exact a_binS rfl rfl rfl rfl; apply r_op; exact rfl; exact rfl; apply g_pick; apply a_pickF rfl (by assumption); (conv => (lhs; whnf)); apply r_op; exact rfl; exact rfl; apply a_move; (conv => (lhs; whnf)); refine q_split rfl rfl rfl (fun hg => ?_) (fun hg => ?_); apply q_skip; exact rfl; exact want_f rfl rfl rfl (by assumption)
  apply q_skip; exact rfl; exact want_f rfl rfl rfl (by assumption); apply q_skip; exact rfl; exact want_f rfl rfl rfl (by assumption); apply q_skip; exact rfl; exact want_f rfl rfl rfl (by assumption); apply q_skip; exact rfl; exact want_f rfl rfl rfl (by assumption); apply r_op; exact rfl; exact rfl; apply g_pick; apply a_pickT rfl (by assumption); (conv => (lhs; whnf)); apply r_op; exact rfl
  exact rfl; apply a_move; (conv => (lhs; whnf)); apply q_skip; exact rfl; exact want_f rfl rfl rfl (by exact rfl); apply q_skip; exact rfl; exact want_f rfl rfl rfl (by exact rfl); apply q_skip; exact rfl; exact want_f rfl rfl rfl (by exact rfl); apply q_skip; exact rfl; exact want_f rfl rfl rfl (by exact rfl); apply q_skip; exact rfl; exact want_f rfl rfl rfl (by exact rfl); apply r_op; exact rfl
  exact rfl; apply g_pick; apply a_pickT rfl (by exact rfl); (conv => (lhs; whnf)); apply r_op; exact rfl; exact rfl; apply a_move; (conv => (lhs; whnf)); apply q_skip; exact rfl; exact want_f rfl rfl rfl (by exact rfl); apply q_skip; exact rfl; exact want_f rfl rfl rfl (by exact rfl); apply q_skip; exact rfl; exact want_f rfl rfl rfl (by exact rfl); apply q_skip; exact rfl
  exact want_f rfl rfl rfl (by exact rfl); apply q_skip; exact rfl; exact want_f rfl rfl rfl (by exact rfl); apply r_op; exact rfl; exact rfl; apply g_pick; apply a_pickT rfl (by exact rfl); (conv => (lhs; whnf)); apply r_op; exact rfl; exact rfl; apply a_move; (conv => (lhs; whnf)); apply q_skip; exact rfl; exact want_f rfl rfl rfl (by exact rfl); apply q_skip; exact rfl
  exact want_f rfl rfl rfl (by exact rfl); apply q_skip; exact rfl; exact want_f rfl rfl rfl (by exact rfl); apply q_skip; exact rfl; exact want_f rfl rfl rfl (by exact rfl); apply q_skip; exact rfl; exact want_f rfl rfl rfl (by exact rfl); apply r_op; exact rfl; exact rfl; apply g_pick; apply a_pickT rfl (by exact rfl); (conv => (lhs; whnf)); apply r_op; exact rfl; exact rfl; apply a_move
  (conv => (lhs; whnf)); apply q_skip; exact rfl; exact want_f rfl rfl rfl (by exact rfl); apply q_skip; exact rfl; exact want_f rfl rfl rfl (by exact rfl); apply q_skip; exact rfl; exact want_f rfl rfl rfl (by exact rfl); apply q_skip; exact rfl; exact want_f rfl rfl rfl (by exact rfl); apply q_skip; exact rfl; exact want_f rfl rfl rfl (by exact rfl); apply q_skip; exact rfl
  exact want_f rfl rfl rfl (by exact rfl); apply q_skip; exact rfl; exact want_f rfl rfl rfl (by exact rfl); apply r_op; exact rfl; exact rfl; apply g_pick; apply a_pickT rfl (by exact rfl); (conv => (lhs; whnf)); (with_reducible refine runs_done ?_); refine W.condT rfl (by exact rfl) ?_; refine W.seq ?_; refine W.regionL (by decide +kernel) rfl ?_; apply r_op; exact rfl; exact rfl; apply a_assign
  (conv => (lhs; whnf)); (with_reducible refine runs_done ?_); refine W.ret ?_; show Q Exit.ret _ _; refine post_q hQ (by apply res_tmp; exact rfl; exact res_nil) (.inl rfl) (by exact .refl _) ?_; (conv => (lhs; whnf)); rotate_left; apply r_op; exact rfl; exact want_t rfl rfl rfl (by assumption); apply g_fieldAddr; exact a_fieldAddr1 rfl (by decide) rfl; apply r_op; exact rfl
  exact want_t rfl rfl rfl (by assumption); apply g_load; exact a_load1 rfl rfl; apply r_op; exact rfl; exact want_t rfl rfl rfl (by assumption); apply g_fieldAddr; exact a_fieldAddr1 rfl (by decide) rfl; apply r_op; exact rfl; exact want_t rfl rfl rfl (by assumption); apply g_load; exact a_load1 rfl rfl; apply r_op; exact rfl; exact want_t rfl rfl rfl (by assumption); apply g_binOp
  exact a_binI rfl rfl rfl; apply r_op; exact rfl; exact rfl; apply g_pick; apply a_pickF rfl (by assumption); (conv => (lhs; whnf)); apply r_op; exact rfl; exact rfl; apply a_move; (conv => (lhs; whnf)); refine q_split rfl rfl rfl (fun hg => ?_) (fun hg => ?_); apply q_skip; exact rfl; exact want_f rfl rfl rfl (by assumption); apply q_skip; exact rfl; exact want_f rfl rfl rfl (by assumption)
  apply q_skip; exact rfl; exact want_f rfl rfl rfl (by assumption); apply q_skip; exact rfl; exact want_f rfl rfl rfl (by assumption); apply q_skip; exact rfl; exact want_f rfl rfl rfl (by assumption); apply r_op; exact rfl; exact rfl; apply g_pick; apply a_pickT rfl (by assumption); (conv => (lhs; whnf)); apply r_op; exact rfl; exact rfl; apply a_move; (conv => (lhs; whnf)); apply q_skip
  exact rfl; exact want_f rfl rfl rfl (by exact rfl); apply q_skip; exact rfl; exact want_f rfl rfl rfl (by exact rfl); apply q_skip; exact rfl; exact want_f rfl rfl rfl (by exact rfl); apply q_skip; exact rfl; exact want_f rfl rfl rfl (by exact rfl); apply q_skip; exact rfl; exact want_f rfl rfl rfl (by exact rfl); apply r_op; exact rfl; exact rfl; apply g_pick; apply a_pickT rfl (by exact rfl)
  (conv => (lhs; whnf)); apply r_op; exact rfl; exact rfl; apply a_move; (conv => (lhs; whnf)); apply q_skip; exact rfl; exact want_f rfl rfl rfl (by exact rfl); apply q_skip; exact rfl; exact want_f rfl rfl rfl (by exact rfl); apply q_skip; exact rfl; exact want_f rfl rfl rfl (by exact rfl); apply q_skip; exact rfl; exact want_f rfl rfl rfl (by exact rfl); apply q_skip; exact rfl
  exact want_f rfl rfl rfl (by exact rfl); apply r_op; exact rfl; exact rfl; apply g_pick; apply a_pickT rfl (by exact rfl); (conv => (lhs; whnf)); apply r_op; exact rfl; exact rfl; apply a_move; (conv => (lhs; whnf)); apply q_skip; exact rfl; exact want_f rfl rfl rfl (by exact rfl); apply q_skip; exact rfl; exact want_f rfl rfl rfl (by exact rfl); apply q_skip; exact rfl
  exact want_f rfl rfl rfl (by exact rfl); apply q_skip; exact rfl; exact want_f rfl rfl rfl (by exact rfl); apply q_skip; exact rfl; exact want_f rfl rfl rfl (by exact rfl); apply q_skip; exact rfl; exact want_f rfl rfl rfl (by exact rfl); apply q_skip; exact rfl; exact want_f rfl rfl rfl (by exact rfl); apply r_op; exact rfl; exact rfl; apply g_pick; apply a_pickT rfl (by exact rfl)
  (conv => (lhs; whnf)); (with_reducible refine runs_done ?_); refine W.condT rfl (by exact rfl) ?_; refine W.seq ?_; refine W.regionL (by decide +kernel) rfl ?_; apply r_op; exact rfl; exact rfl; apply a_assign; (conv => (lhs; whnf)); (with_reducible refine runs_done ?_); refine W.ret ?_; show Q Exit.ret _ _
  refine post_q hQ (by apply res_tmp; exact rfl; exact res_nil) (.inl rfl) (by exact .refl _) ?_; (conv => (lhs; whnf)); rotate_left; apply r_op; exact rfl; exact want_t rfl rfl rfl (by assumption); apply g_fieldAddr; exact a_fieldAddr1 rfl (by decide) rfl; apply r_op; exact rfl; exact want_t rfl rfl rfl (by assumption); apply g_load; exact a_load1 rfl rfl; apply r_op; exact rfl
  exact want_t rfl rfl rfl (by assumption); apply g_fieldAddr; exact a_fieldAddr1 rfl (by decide) rfl; apply r_op; exact rfl; exact want_t rfl rfl rfl (by assumption); apply g_load; exact a_load1 rfl rfl; apply r_op; exact rfl; exact want_t rfl rfl rfl (by assumption); apply g_binOp; exact a_binI rfl rfl rfl; apply r_op; exact rfl; exact rfl; apply g_pick; apply a_pickF rfl (by assumption)
  (conv => (lhs; whnf)); apply r_op; exact rfl; exact rfl; apply a_move; (conv => (lhs; whnf)); refine q_split rfl rfl rfl (fun hg => ?_) (fun hg => ?_); apply q_skip; exact rfl; exact want_f rfl rfl rfl (by assumption); apply q_skip; exact rfl; exact want_f rfl rfl rfl (by assumption); apply q_skip; exact rfl; exact want_f rfl rfl rfl (by assumption); apply q_skip; exact rfl
  exact want_f rfl rfl rfl (by assumption); apply q_skip; exact rfl; exact want_f rfl rfl rfl (by assumption); apply r_op; exact rfl; exact rfl; apply g_pick; apply a_pickT rfl (by assumption); (conv => (lhs; whnf)); apply r_op; exact rfl; exact rfl; apply a_move; (conv => (lhs; whnf)); apply q_skip; exact rfl; exact want_f rfl rfl rfl (by exact rfl); apply q_skip; exact rfl
  exact want_f rfl rfl rfl (by exact rfl); apply q_skip; exact rfl; exact want_f rfl rfl rfl (by exact rfl); apply q_skip; exact rfl; exact want_f rfl rfl rfl (by exact rfl); apply q_skip; exact rfl; exact want_f rfl rfl rfl (by exact rfl); apply r_op; exact rfl; exact rfl; apply g_pick; apply a_pickT rfl (by exact rfl); (conv => (lhs; whnf)); apply r_op; exact rfl; exact rfl; apply a_move
  (conv => (lhs; whnf)); apply q_skip; exact rfl; exact want_f rfl rfl rfl (by exact rfl); apply q_skip; exact rfl; exact want_f rfl rfl rfl (by exact rfl); apply q_skip; exact rfl; exact want_f rfl rfl rfl (by exact rfl); apply q_skip; exact rfl; exact want_f rfl rfl rfl (by exact rfl); apply q_skip; exact rfl; exact want_f rfl rfl rfl (by exact rfl); apply q_skip; exact rfl
  exact want_f rfl rfl rfl (by exact rfl); apply q_skip; exact rfl; exact want_f rfl rfl rfl (by exact rfl); apply r_op; exact rfl; exact rfl; apply g_pick; apply a_pickT rfl (by exact rfl); (conv => (lhs; whnf)); (with_reducible refine runs_done ?_); refine W.condT rfl (by exact rfl) ?_; refine W.seq ?_; refine W.regionL (by decide +kernel) rfl ?_; apply r_op; exact rfl; exact rfl; apply a_assign
  (conv => (lhs; whnf)); (with_reducible refine runs_done ?_); refine W.ret ?_; show Q Exit.ret _ _; refine post_q hQ (by apply res_tmp; exact rfl; exact res_nil) (.inl rfl) (by exact .refl _) ?_; (conv => (lhs; whnf)); rotate_left; apply r_op; exact rfl; exact want_t rfl rfl rfl (by assumption); apply g_fieldAddr; exact a_fieldAddr1 rfl (by decide) rfl; apply r_op; exact rfl
  exact want_t rfl rfl rfl (by assumption); apply g_load; exact a_load1 rfl rfl; apply r_op; exact rfl; exact want_t rfl rfl rfl (by assumption); apply g_fieldAddr; exact a_fieldAddr1 rfl (by decide) rfl; apply r_op; exact rfl; exact want_t rfl rfl rfl (by assumption); apply g_load; exact a_load1 rfl rfl; apply r_op; exact rfl; exact want_t rfl rfl rfl (by assumption); apply g_binOp
  exact a_binI rfl rfl rfl; apply r_op; exact rfl; exact rfl; apply g_pick; apply a_pickF rfl (by assumption); (conv => (lhs; whnf)); apply r_op; exact rfl; exact rfl; apply a_move; (conv => (lhs; whnf)); refine q_split rfl rfl rfl (fun hg => ?_) (fun hg => ?_); apply q_skip; exact rfl; exact want_f rfl rfl rfl (by assumption); apply q_skip; exact rfl; exact want_f rfl rfl rfl (by assumption)
  apply q_skip; exact rfl; exact want_f rfl rfl rfl (by assumption); apply q_skip; exact rfl; exact want_f rfl rfl rfl (by assumption); apply q_skip; exact rfl; exact want_f rfl rfl rfl (by assumption); apply r_op; exact rfl; exact rfl; apply g_pick; apply a_pickT rfl (by assumption); (conv => (lhs; whnf)); apply r_op; exact rfl; exact rfl; apply a_move; (conv => (lhs; whnf)); apply q_skip
  exact rfl; exact want_f rfl rfl rfl (by exact rfl); apply q_skip; exact rfl; exact want_f rfl rfl rfl (by exact rfl); apply q_skip; exact rfl; exact want_f rfl rfl rfl (by exact rfl); apply q_skip; exact rfl; exact want_f rfl rfl rfl (by exact rfl); apply q_skip; exact rfl; exact want_f rfl rfl rfl (by exact rfl); apply q_skip; exact rfl; exact want_f rfl rfl rfl (by exact rfl); apply q_skip
  exact rfl; exact want_f rfl rfl rfl (by exact rfl); apply r_op; exact rfl; exact rfl; apply g_pick; apply a_pickT rfl (by exact rfl); (conv => (lhs; whnf)); (with_reducible refine runs_done ?_); refine W.condT rfl (by exact rfl) ?_; refine W.seq ?_; refine W.regionL (by decide +kernel) rfl ?_; apply r_op; exact rfl; exact rfl; apply a_assign; (conv => (lhs; whnf))
  (with_reducible refine runs_done ?_); refine W.ret ?_; show Q Exit.ret _ _; refine post_q hQ (by apply res_tmp; exact rfl; exact res_nil) (.inl rfl) (by exact .refl _) ?_; (conv => (lhs; whnf)); rotate_left; apply r_op; exact rfl; exact want_t rfl rfl rfl (by assumption); apply g_fieldAddr; exact a_fieldAddr1 rfl (by decide) rfl; apply r_op; exact rfl; exact want_t rfl rfl rfl (by assumption)
  apply g_load; exact a_load1 rfl rfl; apply r_op; exact rfl; exact want_t rfl rfl rfl (by assumption); apply g_fieldAddr; exact a_fieldAddr1 rfl (by decide) rfl; apply r_op; exact rfl; exact want_t rfl rfl rfl (by assumption); apply g_load; exact a_load1 rfl rfl; apply r_op; exact rfl; exact want_t rfl rfl rfl (by assumption); apply g_binOp; exact a_binS rfl rfl rfl rfl; apply r_op; exact rfl
  exact rfl; apply g_pick; apply a_pickF rfl (by assumption); (conv => (lhs; whnf)); apply r_op; exact rfl; exact rfl; apply a_move; (conv => (lhs; whnf)); refine q_split rfl rfl rfl (fun hg => ?_) (fun hg => ?_); apply q_skip; exact rfl; exact want_f rfl rfl rfl (by assumption); apply q_skip; exact rfl; exact want_f rfl rfl rfl (by assumption); apply q_skip; exact rfl
  exact want_f rfl rfl rfl (by assumption); apply q_skip; exact rfl; exact want_f rfl rfl rfl (by assumption); apply q_skip; exact rfl; exact want_f rfl rfl rfl (by assumption); apply q_skip; exact rfl; exact want_f rfl rfl rfl (by assumption); apply q_skip; exact rfl; exact want_f rfl rfl rfl (by assumption); apply r_op; exact rfl; exact rfl; apply g_pick; apply a_pickT rfl (by assumption)
  (conv => (lhs; whnf)); (with_reducible refine runs_done ?_); refine W.condT rfl (by exact rfl) ?_; refine W.seq ?_; refine W.regionL (by decide +kernel) rfl ?_; apply r_op; exact rfl; exact rfl; apply a_assign; (conv => (lhs; whnf)); (with_reducible refine runs_done ?_); refine W.ret ?_; show Q Exit.ret _ _
  refine post_q hQ (by apply res_tmp; exact rfl; exact res_nil) (.inl rfl) (by exact .refl _) ?_; (conv => (lhs; whnf)); rotate_left; apply r_op; exact rfl; exact want_t rfl rfl rfl (by assumption); apply g_fieldAddr; exact a_fieldAddr1 rfl (by decide) rfl; apply r_op; exact rfl; exact want_t rfl rfl rfl (by assumption); apply g_load; exact a_load1 rfl rfl; apply r_op; exact rfl
  exact want_t rfl rfl rfl (by assumption); apply g_call; exact a_len_slc rfl; apply r_op; exact rfl; exact want_t rfl rfl rfl (by assumption); apply g_fieldAddr; exact a_fieldAddr1 rfl (by decide) rfl; apply r_op; exact rfl; exact want_t rfl rfl rfl (by assumption); apply g_load; exact a_load1 rfl rfl; apply r_op; exact rfl; exact want_t rfl rfl rfl (by assumption); apply g_call
  exact a_len_slc rfl; apply r_op; exact rfl; exact want_t rfl rfl rfl (by assumption); apply g_binOp; exact a_binI rfl rfl rfl; apply r_op; exact rfl; exact rfl; apply g_pick; apply a_pickF rfl (by assumption); (conv => (lhs; whnf)); (with_reducible refine runs_done ?_); refine W.cond rfl (fun hc => ?_) (fun hc => ?_); refine W.seq ?_; refine W.regionL (by decide +kernel) rfl ?_; apply r_op
  exact rfl; exact rfl; apply a_assign; (conv => (lhs; whnf)); (with_reducible refine runs_done ?_); refine W.ret ?_; show Q Exit.ret _ _; refine post_q hQ (by apply res_tmp; exact rfl; exact res_nil) (.inl rfl) (by exact .refl _) ?_; (conv => (lhs; whnf)); rotate_left; refine W.skip ?_; show W _ _ _ _ _ _ _; refine W.seq ?_; refine W.seq ?_; refine W.regionL (by decide +kernel) rfl ?_; apply r_op
  exact rfl; exact rfl; apply a_assign; (conv => (lhs; whnf)); (with_reducible refine runs_done ?_); refine W.block ?_; rotate_left
  · have : ¬ x = y := fun e => by subst e; simp at hg
    simp [this]
  · have : ¬ x = y := fun e => by subst e; simp at hg
    simp [this]
  · have : ¬ x = y := fun e => by subst e; simp at hg
    simp [this]
  · have : ¬ x = y := fun e => by subst e; simp at hg
    simp [this]
  · have : ¬ x = y := fun e => by subst e; simp at hg
    simp [this]
  · have : ¬ x = y := fun e => by subst e; simp at hg
    simp [this]
  · have : ¬ x = y := fun e => by subst e; simp at hg
    simp [this]
  · have : ¬ x = y := fun e => by subst e; simp at hg
    simp [this]
  · have : ¬ x = y := fun e => by subst e; simp at hc
    simp [this]
  · have e1 : x.id = y.id := by simpa using ‹(!decide (x.id = y.id)) = false›
    have e2 : x.name = y.name := by simpa using ‹(!decide (x.name = y.name)) = false›
    have e3 : x.topic = y.topic := by simpa using ‹(!decide (x.topic = y.topic)) = false›
    have e4 : x.want = y.want := by simpa using ‹(!decide (x.want = y.want)) = false›
    have e5 : x.lease = y.lease := by simpa using ‹(!decide (x.lease = y.lease)) = false›
    have e6 : x.most = y.most := by simpa using ‹(!decide (x.most = y.most)) = false›
    have e7 : x.floor = y.floor := by simpa using ‹(!decide (x.floor = y.floor)) = false›
    have e8 : x.note = y.note := by simpa using ‹(!decide (x.note = y.note)) = false›
    have hlen : x.acks.length = y.acks.length := by simp at hc; omega
    · refine W.loop (fun k E s => ∃ i : Nat, i ≤ x.acks.length ∧ k = x.acks.length - i ∧ s = σ ∧ x.acks.take i = y.acks.take i ∧ Has [(2, .vp (eSub x)), (3, .vp (eSub y)), (5, .int .i64 i)] E) x.acks.length ⟨0, Nat.zero_le _, rfl, rfl, by simp, by exact Has.by (by repeat (first | exact trivial | refine ⟨by first | trivial | exact Weak.refl _ | exact Weak.tok _ _ _ | exact Weak.of_eq (congrArg (AV.int _) (by omega)) | exact Weak.of_eq (congrArg AV.bool (by fail)) | exact Weak.nils _ _ (.inr rfl), ?_⟩))⟩ ?_
      rintro k E s ⟨i, hi, rfl, rfl, htk, hE⟩; refine W.has hE ?_; clear hE hc; refine W.seq ?_; refine W.seq ?_; refine W.regionL (by decide +kernel) rfl ?_; apply r_op; exact rfl; exact rfl; apply a_move; (conv => (lhs; whnf)); apply r_op; exact rfl; exact rfl; apply g_fieldAddr; exact a_fieldAddr1 rfl (by decide) rfl; apply r_op; exact rfl; exact rfl; apply g_load; exact a_load1 rfl rfl
      apply r_op; exact rfl; exact rfl; apply g_call; exact a_len_slc rfl; apply r_op; exact rfl; exact rfl; apply g_binOp; exact a_binI rfl rfl rfl; (with_reducible refine runs_done ?_); refine W.cond rfl (fun hc => ?_) (fun hc => ?_)
      · have hlt : i < x.acks.length := by simp at hc; omega
        have ga : x.acks[i]? = some x.acks[i] := by simp [hlt]
        have gb : y.acks[i]? = some (y.acks[i]'(by omega)) := List.getElem?_eq_getElem (by omega)
        have ht := take_succ_iff hlt (show i < y.acks.length by omega) htk
        generalize x.acks[i] = a at ga ht
        generalize y.acks[i]'(by omega) = b at gb ht
        refine W.skip ?_; show W _ _ _ _ _ _ _; refine W.seq ?_; refine W.block ?_; refine W.seq ?_; refine W.regionDK 1 [] Ty.mixed (by decide +kernel) (by decide +kernel) rfl ?_; apply r_op; exact rfl; exact rfl; apply g_fieldAddr; exact a_fieldAddr1 rfl (by decide) rfl; apply r_op; exact rfl; exact rfl; apply g_load; exact a_load1 rfl rfl; apply r_op; exact rfl; exact rfl; apply a_move
        (conv => (lhs; whnf)); apply r_op; exact rfl; exact rfl; apply g_indexAddr; exact a_indexAddr rfl rfl (by decide) (by omega) (by exact get_map ga); apply r_op; exact rfl; exact rfl; apply g_load; exact a_load1 rfl rfl; apply r_op; exact rfl; exact rfl; apply g_fieldAddr; exact a_fieldAddr1 rfl (by decide) rfl; apply r_op; exact rfl; exact rfl; apply g_load; exact a_load1 rfl rfl; apply r_op
        exact rfl; exact rfl; apply a_move; (conv => (lhs; whnf)); apply r_op; exact rfl; exact rfl; apply g_indexAddr; exact a_indexAddr rfl rfl (by decide) (by omega) (by exact get_map gb); apply r_op; exact rfl; exact rfl; apply g_load; exact a_load1 rfl rfl; apply r_op; exact rfl; exact rfl; apply g_binOp; exact a_binI rfl rfl rfl; (with_reducible refine runs_done ?_)
        refine W.cond rfl (fun hc => ?_) (fun hc => ?_); refine W.seq ?_; refine W.regionL (by decide +kernel) rfl ?_; apply r_op; exact rfl; exact rfl; apply a_assign; (conv => (lhs; whnf)); (with_reducible refine runs_done ?_); refine W.ret ?_; show Q Exit.ret _ _; refine post_q hQ (by apply res_tmp; exact rfl; exact res_nil) (.inl rfl) (by exact .refl _) ?_; (conv => (lhs; whnf)); rotate_left
        refine W.skip ?_; show W _ _ _ _ _ _ _; refine W.regionL (by decide +kernel) rfl ?_; apply r_op; exact rfl; exact rfl; apply a_move; (conv => (lhs; whnf)); apply r_op; exact rfl; exact rfl; apply g_binOp; exact a_add64 rfl rfl (by omega); apply r_op; exact rfl; exact rfl; apply a_assign; (conv => (lhs; whnf)); (with_reducible refine runs_done ?_); rotate_left
        · have : ¬ x = y := fun e => by subst e; rw [ga] at gb; cases gb; simp at hc
          simp [this]
        · have hxy : a = b := by simpa using hc
          exact ⟨x.acks.length - (i + 1), by omega, i + 1, by omega, rfl, rfl, ht.2 hxy, by exact Has.by (by repeat (first | exact trivial | refine ⟨by first | trivial | exact Weak.refl _ | exact Weak.tok _ _ _ | exact Weak.of_eq (congrArg (AV.int _) (by omega)) | exact Weak.of_eq (congrArg AV.bool (by fail)) | exact Weak.nils _ _ (.inr rfl), ?_⟩))⟩
      · have hge : i = x.acks.length := by simp at hc; omega
        have e9 : x.acks = y.acks := by rw [hge, List.take_length, hlen, List.take_length] at htk; exact htk
        have : x = y ↔ x.queue = y.queue := ⟨fun h => by rw [h], fun h => sub_ext e1 e2 e3 e4 e5 e6 e7 e9 h e8⟩
        refine W.exit ?_; show W _ _ _ _ _ _ _; refine W.seq ?_; refine W.regionL (by decide +kernel) rfl ?_; apply r_op; exact rfl; exact rfl; apply g_fieldAddr; exact a_fieldAddr1 rfl (by decide) rfl; apply r_op; exact rfl; exact rfl; apply g_load; exact a_load1 rfl rfl; apply r_op; exact rfl; exact rfl; apply g_fieldAddr; exact a_fieldAddr1 rfl (by decide) rfl; apply r_op; exact rfl; exact rfl
        apply g_load; exact a_load1 rfl rfl; apply r_callP; exact rfl; exact rfl; exact rfl; exact rfl; exact rfl; infer_instance; exact sameMsgs_any w0 _ _ _ _ hq; apply r_op; exact rfl; exact rfl; apply a_assign; (conv => (lhs; whnf)); (with_reducible refine runs_done ?_); refine W.ret ?_; show Q Exit.ret _ _
        refine post_q hQ (by apply res_tmp; exact rfl; exact res_nil) (.inl rfl) (by exact .refl _) ?_; (conv => (lhs; whnf))
        simp [this]
end Go.Proofs.YtkbmkhhcppfcnaaGreatDoor
end
section
set_option linter.unusedVariables false
set_option linter.unusedSimpArgs false
set_option maxRecDepth 100000
set_option maxHeartbeats 1000000
namespace Go.Proofs.YtkbmkhhcppfcnaaGreatDoor
open Go.Al Go.RowKit
structure Ways (w0 : Base) (x : Sub) : Prop where
  e1 : CallP Tryz.prog w0 13 [eSub x] (eRows (enc1 x))
  e2 : CallP Tryz.prog w0 9 [eSub x] (eRows (enc2 x))
  e3 : CallP Tryz.prog w0 16 [eSub x] (eRows (enc3 x))
  d11 : CallP Tryz.prog w0 12 [eRows (enc1 x)] (.tup [eSub x, .int .u16 0])
  d22 : CallP Tryz.prog w0 14 [eRows (enc2 x)] (.tup [eSub x, .int .u16 0])
  d33 : CallP Tryz.prog w0 15 [eRows (enc3 x)] (.tup [eSub x, .int .u16 0])
  d12 : CallP Tryz.prog w0 12 [eRows (enc2 x)] (.tup [eSub sub0, .int .u16 11])
  d23 : CallP Tryz.prog w0 14 [eRows (enc3 x)] (.tup [eSub sub0, .int .u16 11])
  d31 : CallP Tryz.prog w0 15 [eRows (enc1 x)] (.tup [eSub sub0, .int .u16 11])
  s : CallP Tryz.prog w0 18 [eSub x, eSub x] (.bool true)
def ver (r : Row) : UInt8 := r.key.headD 0
theorem enc1_ver (x : Sub) : ∃ r ∈ enc1 x, ver r = 49 := ⟨s1 x, by simp [enc1, encB], rfl⟩
theorem enc2_ver (x : Sub) : ∃ r ∈ enc2 x, ver r = 50 := ⟨s2 x, by simp [enc2], rfl⟩
theorem enc3_ver (x : Sub) : ∃ r ∈ enc3 x, ver r = 51 := ⟨⟨rkey 3 115 x.id 0, subB x⟩, by simp [enc3_eq], rfl⟩
theorem apart_of {l : List Row} {v w : UInt8} (h1 : ∀ r ∈ l, ver r = v) (h2 : ∃ r ∈ l, ver r = w) : v = w := by
  obtain ⟨r, hr, e⟩ := h2
  rw [← e, h1 r hr]
theorem ways {id clock next : Nat} {x : Sub} (w0 : Base) (hL : Laid w0) (hg : Grown id clock next x) (hc : clock ≤ 1000) (hid : id ≤ 1000) (hn : next ≤ 1000) : Ways w0 x := by
  have hfx := hg.fits
  have hgd := hg.good2 (by omega) (by omega) (by omega)
  have hnq := hg.nqueue
  have hna := hg.nacks
  have r1 := fun r hr => enc1_row (r := r) hg (by omega) hr
  have r2 := fun r hr => enc2_row (r := r) hg (by omega) hr
  have r3 := fun r hr => enc3_row (r := r) hg (by omega) hr
  have n1 := enc1_few x
  have n2 := enc2_few x
  have n3 : (enc3 x).length ≤ 32 := by
    have h2 := preR_len x
    rw [enc3_eq]; simp; omega
  have t1 := tot_bound2 (enc1 x) 150 fun r hr => (r1 r hr).2
  have t2 := tot_bound2 (enc2 x) 150 fun r hr => (r2 r hr).2
  have t3 := tot_bound2 (enc3 x) 150 fun r hr => (r3 r hr).2
  have k1 : ∀ r ∈ enc1 x, r.key.length = 22 := fun r hr => by obtain ⟨⟨u, q, _, e⟩, h2⟩ := r1 r hr; rw [e, rkey_length]
  have k2 : ∀ r ∈ enc2 x, r.key.length = 22 := fun r hr => by obtain ⟨⟨u, q, _, e⟩, h2⟩ := r2 r hr; rw [e, rkey_length]
  have k3 : ∀ r ∈ enc3 x, r.key.length = 22 := fun r hr => by obtain ⟨⟨u, q, _, e⟩, h2⟩ := r3 r hr; rw [e, rkey_length]
  have v1 : ∀ r ∈ enc1 x, ver r = 49 := fun r hr => by obtain ⟨⟨u, q, _, e⟩, h2⟩ := r1 r hr; rw [ver, e]; rfl
  have v2 : ∀ r ∈ enc2 x, ver r = 50 := fun r hr => by obtain ⟨⟨u, q, _, e⟩, h2⟩ := r2 r hr; rw [ver, e]; rfl
  have v3 : ∀ r ∈ enc3 x, ver r = 51 := fun r hr => by obtain ⟨⟨u, q, _, e⟩, h2⟩ := r3 r hr; rw [ver, e]; rfl
  refine ⟨enc1_p w0 hL x hfx, enc2_p w0 hL x hfx, (fun σ => (encW_room w0 hL x hfx σ).room), ?_, ?_, ?_, ?_, ?_, ?_, ?_⟩
  · have := dec1_p w0 hL (enc1 x) .no (by omega) (fun r hr => by have := (r1 r hr).2; omega) fun r hr => by have := k1 r hr; omega
    rw [dec1_back hgd] at this
    exact this
  · have := dec2_p w0 hL (enc2 x) .no (by omega) fun r hr => by have := k2 r hr; omega
    rw [dec2_back hgd] at this
    exact this
  · have := decode_any w0 hL (enc3 x) (by omega) fun r hr => by have := k3 r hr; omega
    rw [dec3_back hg (by omega) (by omega) (by omega)] at this
    exact this
  · have := dec1_p w0 hL (enc2 x) .no (by omega) (fun r hr => by have := (r2 r hr).2; omega) fun r hr => by have := k2 r hr; omega
    rw [dec1, if_neg fun h => absurd (apart_of v2 (h.2 ▸ enc1_ver (rows1 (enc2 x)))) (by decide)] at this
    exact this
  · have := dec2_p w0 hL (enc3 x) .no (by omega) fun r hr => by have := k3 r hr; omega
    rw [dec2, if_neg fun h => absurd (apart_of v3 (h.2 ▸ enc2_ver (fin2 (enc3 x)))) (by decide)] at this
    exact this
  · have := decode_any w0 hL (enc1 x) (by omega) fun r hr => by have := k1 r hr; omega
    rw [dec3, if_neg fun h => absurd (apart_of v1 (h.2 ▸ enc3_ver _)) (by decide)] at this
    exact this
  · have := sameSub_any w0 x x (by omega) (by omega)
    rwa [show decide (x = x) = true by simp] at this
theorem lawsub3_any (w0 : Base) (c : List UInt8) (t : Tok) (k : UInt8) (hc : c.length ≤ 9223372036854775807) (σ : St) : CallW Tryz.prog w0 11 [.slc 1 (aBytes c) t, .int .i64 (1 + (k.toNat : Int)), .int .i64 9, .int .i64 (2 + (k.toNat : Int))] σ (fun r s => ∃ x, r = eSub x ∧ Grown (1 + k.toNat) 9 (2 + k.toNat) x ∧ s = σ) := by
  have hk := k.toNat_lt
  have := sub_any w0 c t (1 + k.toNat) 9 (2 + k.toNat) hc (by omega) (by omega) ⟨by omega, by omega⟩ σ
  have e1 : ((1 + k.toNat : Nat) : Int) = 1 + (k.toNat : Int) := by omega
  have e2 : ((2 + k.toNat : Nat) : Int) = 2 + (k.toNat : Int) := by omega
  rw [e1, e2] at this
  exact this
end Go.Proofs.YtkbmkhhcppfcnaaGreatDoor
end
section
set_option linter.unusedVariables false
set_option linter.unusedSimpArgs false
set_option maxRecDepth 100000
set_option maxHeartbeats 1000000
namespace Go.Proofs.YtkbmkhhcppfcnaaGreatDoor
open Go.Al Go.RowKit
theorem threeAlike_any (w0 : Base) (hL : Laid w0) (c : List UInt8) (t : Tok) (k : UInt8) (hc : c.length ≤ 9223372036854775807) (σ : St) : CallW Tryz.prog w0 4 [.slc 1 (aBytes c) t, .int .u8 k.toNat] σ (fun r _ => r = .bool true) := by
  have hk := k.toNat_lt
  have hkn := known_any w0 hL
  refine CallW.x Ty.tok Ty.mixed Tryz.func4 rfl Tryz.ntmps4 rfl (by simp) (by decide +kernel) (.nil σ) ?_; (conv => whnf); refine ⟨_, IntWalk.i64_in _ (by omega), ?_⟩; (conv => whnf); refine ⟨_, IntWalk.i64_in _ (by omega), ?_⟩; (conv => whnf); refine ⟨_, IntWalk.i64_in _ (by omega), ?_⟩; (conv => whnf)
  refine ⟨_, IntWalk.i64_in _ (by omega), ?_⟩; (conv => whnf); refine SCall.w (by exact lawsub3_any w0 c t k hc _) rfl ?_; rintro r s ⟨x1, rfl, hx1, hs1⟩ hB
  replace hs1 := hs1.symm
  subst hs1
  refine ⟨_, hB, ?_⟩; clear hB; (conv => whnf); intro b1 hb1; (conv => whnf); refine SStore.on 0 rfl ?_; (conv => whnf); refine SLoad.on 0 rfl ?_; (conv => whnf)
  have hw : Ways w0 x1 := ways w0 hL hx1 (by omega) (by omega) (by omega)
  obtain ⟨e1, e2, e3, d11, d22, d33, d12, d23, d31, hs⟩ := hw
  clear d12 d23 d31
  generalize enc1 x1 = l1 at *
  generalize enc2 x1 = l2 at *
  generalize enc3 x1 = l3 at *
  iterate 23 ((first | refine SIf.y Ty.mixed (by first | exact rfl | assumption | fail) ?_ | refine SIf.n Ty.mixed (by first | exact rfl | assumption | fail) ?_ | refine SCond.y (by first | exact rfl | assumption | fail) ?_ | refine SCond.n (by first | exact rfl | assumption | fail) ?_ | refine SPick.y (by first | exact rfl | assumption | fail) ?_ | refine SPick.n (by first | exact rfl | assumption | fail) ?_ | refine SPick.b ?_ | refine SPick.i ?_ | fail | refine SLoad.on 0 rfl ?_ | refine SLoad.on 1 rfl ?_ | refine SLoad.on 2 rfl ?_ | refine SLoad.on 3 rfl ?_ | refine SLoad.on 4 rfl ?_ | refine SLoad.on 5 rfl ?_ | refine SStore.on 0 rfl ?_ | refine SStore.on 1 rfl ?_ | refine SStore.on 2 rfl ?_ | refine SStore.on 3 rfl ?_ | refine SStore.on 4 rfl ?_ | refine SStore.on 5 rfl ?_ | refine SBox.f ?_ | refine SCall.p (by first | exact e1 | exact e2 | exact e3 | exact d11 | exact d22 | exact d33 | exact hs | exact hkn) ?_ | fail | refine SApp.c rfl rfl (by first | assumption | exact Moves.more (by assumption) (by assumption) | fail) (by first | (simp only [length_aBytes, List.length_append, List.length_cons, List.length_nil, List.length_map, List.length_range]; omega) | omega | fail) fun tk1 σ1 hm => ?_ | refine SReg.t 0 [] (by decide +kernel) ?_ | refine And.intro (by first | omega | (simp only [List.length_cons, List.length_append, List.length_nil, List.length_map, length_aBytes, List.length_replicate, List.length_range]; omega) | fail) ?_ | refine ⟨_, ⟨by first | omega | (simp only [List.length_cons, List.length_append, List.length_nil, List.length_map, length_aBytes, List.length_replicate, List.length_range]; omega) | fail, by first | assumption | exact get_map (by assumption) | exact get_bytes (by assumption) | fail⟩, ?_⟩ | refine ⟨_, toBytes_aBytes _, ?_⟩ | refine ⟨_, by repeat (first | exact toB_nil | apply toB_cons | apply toB_consC _ (by first | omega | (simp only [List.length_cons, List.length_append, List.length_nil, List.length_map, length_aBytes, List.length_replicate, List.length_range]; omega) | fail)), ?_⟩ | refine ⟨_, IntWalk.i64_in _ (by first | omega | (simp only [List.length_cons, List.length_append, List.length_nil, List.length_map, length_aBytes, List.length_replicate, List.length_range]; omega) | fail), ?_⟩ | refine ⟨_, wrap_u8 _, ?_⟩ | refine ⟨_, rfl, ?_⟩ | refine ⟨true, fun b1 hb1 => ?_⟩ | intro b1 hb1 | fail); conv => whnf)
  first | refine SIf.y Ty.mixed (by first | exact rfl | assumption | fail) ?_ | refine SIf.n Ty.mixed (by first | exact rfl | assumption | fail) ?_ | refine SCond.y (by first | exact rfl | assumption | fail) ?_ | refine SCond.n (by first | exact rfl | assumption | fail) ?_ | refine SPick.y (by first | exact rfl | assumption | fail) ?_ | refine SPick.n (by first | exact rfl | assumption | fail) ?_ | refine SPick.b ?_ | refine SPick.i ?_ | fail | refine SLoad.on 0 rfl ?_ | refine SLoad.on 1 rfl ?_ | refine SLoad.on 2 rfl ?_ | refine SLoad.on 3 rfl ?_ | refine SLoad.on 4 rfl ?_ | refine SLoad.on 5 rfl ?_ | refine SStore.on 0 rfl ?_ | refine SStore.on 1 rfl ?_ | refine SStore.on 2 rfl ?_ | refine SStore.on 3 rfl ?_ | refine SStore.on 4 rfl ?_ | refine SStore.on 5 rfl ?_ | refine SBox.f ?_ | refine SCall.p (by first | exact e1 | exact e2 | exact e3 | exact d11 | exact d22 | exact d33 | exact hs | exact hkn) ?_ | fail | refine SApp.c rfl rfl (by first | assumption | exact Moves.more (by assumption) (by assumption) | fail) (by first | (simp only [length_aBytes, List.length_append, List.length_cons, List.length_nil, List.length_map, List.length_range]; omega) | omega | fail) fun tk1 σ1 hm => ?_ | refine SReg.t 0 [] (by decide +kernel) ?_ | refine And.intro (by first | omega | (simp only [List.length_cons, List.length_append, List.length_nil, List.length_map, length_aBytes, List.length_replicate, List.length_range]; omega) | fail) ?_ | refine ⟨_, ⟨by first | omega | (simp only [List.length_cons, List.length_append, List.length_nil, List.length_map, length_aBytes, List.length_replicate, List.length_range]; omega) | fail, by first | assumption | exact get_map (by assumption) | exact get_bytes (by assumption) | fail⟩, ?_⟩ | refine ⟨_, toBytes_aBytes _, ?_⟩ | refine ⟨_, by repeat (first | exact toB_nil | apply toB_cons | apply toB_consC _ (by first | omega | (simp only [List.length_cons, List.length_append, List.length_nil, List.length_map, length_aBytes, List.length_replicate, List.length_range]; omega) | fail)), ?_⟩ | refine ⟨_, IntWalk.i64_in _ (by first | omega | (simp only [List.length_cons, List.length_append, List.length_nil, List.length_map, length_aBytes, List.length_replicate, List.length_range]; omega) | fail), ?_⟩ | refine ⟨_, wrap_u8 _, ?_⟩ | refine ⟨_, rfl, ?_⟩ | refine ⟨true, fun b1 hb1 => ?_⟩ | intro b1 hb1 | fail
  generalize hk : (fun (L : SL) (σ_1 : St) (B : BL) => Xc Tryz.prog w0 Ty.tt 90 _ _ _ _ L σ_1 B) = kk
  (conv => whnf)
  skip
  subst hk
  show Xc _ _ _ _ _ _ _ _ _ _ _
  rw [Xc]
  conv => whnf
  refine SCall.p (by exact hkn) ?_; (conv => whnf); refine SCond.y (by exact rfl) ?_; (conv => whnf); refine SCond.y (by exact rfl) ?_; (conv => whnf); refine SPick.y (by exact rfl) ?_; (conv => whnf); refine SCond.y (by exact rfl) ?_; (conv => whnf); refine SCond.y (by exact rfl) ?_; (conv => whnf); refine SPick.y (by exact rfl) ?_; (conv => whnf); refine SCond.y (by exact rfl) ?_; (conv => whnf)
  refine SCond.y (by exact rfl) ?_; (conv => whnf); refine SPick.y (by exact rfl) ?_; (conv => whnf); refine SCond.y (by exact rfl) ?_; (conv => whnf); refine SCond.y (by exact rfl) ?_; (conv => whnf); refine SPick.y (by exact rfl) ?_; (conv => whnf); refine SCond.y (by exact rfl) ?_; (conv => whnf); refine SCond.y (by exact rfl) ?_; (conv => whnf); refine SPick.y (by exact rfl) ?_; (conv => whnf)
  refine SCond.y (by exact rfl) ?_; (conv => whnf); refine SLoad.on 5 rfl ?_; (conv => whnf); refine SCond.y (by exact rfl) ?_; (conv => whnf); refine SLoad.on 2 rfl ?_; (conv => whnf); refine SCond.y (by exact rfl) ?_; (conv => whnf); refine SCall.p (by exact hs) ?_; (conv => whnf); refine SPick.y (by exact rfl) ?_; (conv => whnf); refine SCond.y (by exact rfl) ?_; (conv => whnf)
  refine SLoad.on 5 rfl ?_; (conv => whnf); refine SCond.y (by exact rfl) ?_; (conv => whnf); refine SLoad.on 0 rfl ?_; (conv => whnf); refine SCond.y (by exact rfl) ?_; (conv => whnf); refine SCall.p (by exact hs) ?_; (conv => whnf); refine SPick.y (by exact rfl) ?_; (conv => whnf); refine SCond.y (by exact rfl) ?_; (conv => whnf); refine SLoad.on 5 rfl ?_; (conv => whnf)
  refine SCond.y (by exact rfl) ?_; (conv => whnf); refine SLoad.on 3 rfl ?_; (conv => whnf); refine SCond.y (by exact rfl) ?_; (conv => whnf); refine SCall.p (by exact hs) ?_; (conv => whnf); refine SPick.y (by exact rfl) ?_; (conv => whnf); exact .w rfl
end Go.Proofs.YtkbmkhhcppfcnaaGreatDoor
end
