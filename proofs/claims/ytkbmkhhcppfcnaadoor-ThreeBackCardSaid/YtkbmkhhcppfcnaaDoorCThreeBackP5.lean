/- The law ThreeBack returns true for every input, and its arguments read as before: the tied card. No conditions. This is part 5 of 7 of its proof; the parts are read in order. No conditions. -/
import Derived.Test.YtkbmkhhcppfcnaaDoorCThreeBackP4
section
set_option linter.unusedVariables false
set_option linter.unusedSimpArgs false
set_option maxRecDepth 100000
set_option maxHeartbeats 2000000
namespace Go.Proofs.YtkbmkhhcppfcnaaDoor
open Go.Al Go.RowKit
theorem dec_nil (w0 : World) (hL : Laid w0) : CallP Tryd.prog w0 18 [.nils] (.tup [zA, .int .u16 11]) := by
  refine CallP.start Tryd.func18 rfl Tryd.ntmps18 (by simp) fun σ Q hQ => ?_
  have hen := enc_zA w0 hL
  have heq : CallP Tryd.prog w0 49 [.slc 2 ((enc3 z0).map eRow) .no, .nils, .fn (.func 48) [] []] (.bool false) := fun σ => by
    have := eqRows_any w0 (enc3 z0) [] .no .no (by simp [enc3, z0])  σ
    rw [show decide (enc3 z0 = []) = false by simp [enc3]] at this
    exact CallW.weak1 [_] [_] (.nils 2 .no (.inl rfl)) this
  refine W.seq ?_
  refine W.regionL (by decide +kernel) rfl ?_
  apply r_alloc
  exact rfl
  exact rfl
  decide
  exact rfl
  (conv => (lhs; whnf))
  intro b1 hb1
  apply r_op
  exact rfl
  exact rfl
  apply a_assign
  (conv => (lhs; whnf))
  with_reducible refine runs_done ?_
  refine W.seq ?_
  refine W.regionL (by decide +kernel) rfl ?_
  apply r_alloc
  exact rfl
  exact rfl
  decide
  exact rfl
  (conv => (lhs; whnf))
  intro b1 hb1
  with_reducible refine runs_done ?_
  refine W.seq ?_
  refine W.regionL (by decide +kernel) rfl ?_
  apply r_op
  exact rfl
  exact rfl
  apply a_assign
  (conv => (lhs; whnf))
  with_reducible refine runs_done ?_
  refine W.seq ?_
  refine W.regionL (by decide +kernel) rfl ?_
  apply r_op
  exact rfl
  exact rfl
  apply a_assign
  (conv => (lhs; whnf))
  with_reducible refine runs_done ?_
  refine W.seq ?_
  refine W.seq ?_
  refine W.regionL (by decide +kernel) rfl ?_
  apply r_op
  exact rfl
  exact rfl
  apply a_move
  (conv => (lhs; whnf))
  apply r_op
  exact rfl
  exact rfl
  apply g_call
  exact a_len_nils rfl
  apply r_op
  exact rfl
  exact rfl
  apply a_move
  (conv => (lhs; whnf))
  with_reducible refine runs_done ?_
  refine W.block ?_
  rename_i b2 hb2
  have hne : b2 ≠ b1 := ne_none' hb1
  have hs4 : σ.box b1 = none := none_in hb1
  generalize b1 = b4 at hne hs4 hb1 ⊢
  refine W.loop (fun k E s => k = 0 ∧ s.box b2 = some z27 ∧ s.box b4 = some z27 ∧ St.Le σ s ∧ Has [(0, .nils), (2, .ptr b2 0), (3, .int .u16 0), (4, .ptr b4 0), (5, .nils), (6, .bool true), (20, .nils), (21, .int .i64 0), (22, .int .i64 0)] E) 0 ⟨rfl, by repeat (first | exact setBox_same | apply hb_ne (by first | assumption | exact ne_none' (by first | assumption | exact none_in (by assumption) | exact none_in (none_in (by assumption)) | exact none_in (none_in (none_in (by assumption))) | exact none_in (none_in (none_in (none_in (by assumption)))) | exact none_in (none_in (none_in (none_in (none_in (by assumption))))) | exact none_in (none_in (none_in (none_in (none_in (none_in (by assumption)))))) | exact none_in (none_in (none_in (none_in (none_in (none_in (none_in (by assumption))))))) | exact none_in (none_in (none_in (none_in (none_in (none_in (none_in (none_in (by assumption)))))))) | fail) | exact ne_none (by first | assumption | exact none_in (by assumption) | exact none_in (none_in (by assumption)) | exact none_in (none_in (none_in (by assumption))) | exact none_in (none_in (none_in (none_in (by assumption)))) | exact none_in (none_in (none_in (none_in (none_in (by assumption))))) | exact none_in (none_in (none_in (none_in (none_in (none_in (by assumption)))))) | exact none_in (none_in (none_in (none_in (none_in (none_in (none_in (by assumption))))))) | exact none_in (none_in (none_in (none_in (none_in (none_in (none_in (none_in (by assumption)))))))) | fail) | fail)), setBox_same, by repeat (first | assumption | exact .refl _ | refine le_setBox ?_ (by first | assumption | exact none_in (by assumption) | exact none_in (none_in (by assumption)) | exact none_in (none_in (none_in (by assumption))) | exact none_in (none_in (none_in (none_in (by assumption)))) | exact none_in (none_in (none_in (none_in (none_in (by assumption))))) | exact none_in (none_in (none_in (none_in (none_in (none_in (by assumption)))))) | exact none_in (none_in (none_in (none_in (none_in (none_in (none_in (by assumption))))))) | exact none_in (none_in (none_in (none_in (none_in (none_in (none_in (none_in (by assumption)))))))) | fail)), by exact Has.by (by repeat (first | exact trivial | refine ⟨by first | trivial | exact Weak.refl _ | exact Weak.tok _ _ _ | exact Weak.of_eq (congrArg (AV.int _) (by omega)) | exact Weak.nils _ _ (.inr rfl), ?_⟩))⟩ ?_
  rintro k E s ⟨rfl, h2, h4, hle, hE⟩
  refine W.has hE ?_
  clear hE
  unfold z27 at h2 h4
  refine W.seq ?_
  refine W.regionL (by decide +kernel) rfl ?_
  apply r_op
  exact rfl
  exact rfl
  apply g_binOp
  exact a_binI rfl rfl rfl
  with_reducible refine runs_done ?_
  refine W.seq ?_
  refine W.condF rfl (by exact rfl) ?_
  refine W.exit ?_
  show W _ _ _ _ _ _ _
  refine W.seq ?_
  refine W.regionL (by decide +kernel) rfl ?_
  apply r_op
  exact rfl
  exact rfl
  apply g_fieldAddr
  exact a_fieldAddrP rfl (by decide)
  apply r_load
  exact rfl
  exact rfl
  exact rfl
  decide
  exact rfl
  assumption
  exact aLoad1 rfl
  apply r_op
  exact rfl
  exact rfl
  apply a_assign
  (conv => (lhs; whnf))
  with_reducible refine runs_done ?_
  refine W.seq ?_
  refine W.seq ?_
  refine W.regionL (by decide +kernel) rfl ?_
  apply r_op
  exact rfl
  exact rfl
  apply a_move
  (conv => (lhs; whnf))
  apply r_op
  exact rfl
  exact rfl
  apply g_call
  exact a_len_nils rfl
  apply r_op
  exact rfl
  exact rfl
  apply a_move
  (conv => (lhs; whnf))
  with_reducible refine runs_done ?_
  refine W.block ?_
  refine W.loop (fun k E s' => k = 0 ∧ s' = s ∧ Has [(0, .nils), (2, .ptr b2 0), (3, .int .u16 0), (4, .ptr b4 0), (6, .bool true), (123, .nils), (124, .int .i64 0), (125, .int .i64 0)] E) 0 ⟨rfl, rfl, by exact Has.by (by repeat (first | exact trivial | refine ⟨by first | trivial | exact Weak.refl _ | exact Weak.tok _ _ _ | exact Weak.of_eq (congrArg (AV.int _) (by omega)) | exact Weak.nils _ _ (.inr rfl), ?_⟩))⟩ ?_
  rintro k E s' ⟨rfl, rfl, hE⟩
  refine W.has hE ?_
  clear hE
  refine W.seq ?_
  refine W.regionL (by decide +kernel) rfl ?_
  apply r_op
  exact rfl
  exact rfl
  apply g_binOp
  exact a_binI rfl rfl rfl
  with_reducible refine runs_done ?_
  refine W.seq ?_
  refine W.condF rfl (by exact rfl) ?_
  refine W.exit ?_
  show W _ _ _ _ _ _ _
  refine W.seq ?_
  refine W.regionL (by decide +kernel) rfl ?_
  apply r_op
  exact rfl
  exact rfl
  apply a_assign
  (conv => (lhs; whnf))
  with_reducible refine runs_done ?_
  refine W.seq ?_
  refine W.seq ?_
  refine W.regionL (by decide +kernel) rfl ?_
  apply r_op
  exact rfl
  exact rfl
  apply a_move
  (conv => (lhs; whnf))
  apply r_op
  exact rfl
  exact rfl
  apply g_unOp
  exact a_not rfl
  apply r_op
  exact rfl
  exact rfl
  apply a_move
  (conv => (lhs; whnf))
  apply r_load
  exact rfl
  exact rfl
  exact rfl
  decide
  exact rfl
  assumption
  exact aLoadA rfl (by rfl) rfl
  apply r_callP
  exact rfl
  exact rfl
  exact rfl
  exact rfl
  exact rfl
  infer_instance
  exact hen
  apply r_op
  exact rfl
  exact rfl
  apply a_move
  (conv => (lhs; whnf))
  apply r_op
  exact rfl
  exact rfl
  apply a_move
  (conv => (lhs; whnf))
  apply r_callP
  exact rfl
  exact rfl
  exact rfl
  exact rfl
  exact rfl
  infer_instance
  exact heq
  apply r_op
  exact rfl
  exact rfl
  apply g_unOp
  exact a_not rfl
  apply r_op
  exact rfl
  exact rfl
  apply g_pick
  apply a_pickF rfl (by exact rfl)
  (conv => (lhs; whnf))
  with_reducible refine runs_done ?_
  refine W.condT rfl (by exact rfl) ?_
  refine W.seq ?_
  refine W.regionL (by decide +kernel) rfl ?_
  apply r_op
  exact rfl
  exact rfl
  apply g_build
  apply a_build
  exact EvP.nil
  simp only [aFill, List.getElem?_cons_zero, List.getElem?_cons_succ, AV.cells, List.length_cons, List.length_nil, AV.flat, AV.one, setL, List.set_cons_zero, List.set_cons_succ, Nat.reduceAdd, Nat.reduceLeDiff, Nat.reduceMul, and_self, if_true, ↓reduceIte, Nat.zero_add, Nat.le_refl, List.range, List.range.loop, List.map_cons, List.map_nil, Nat.zero_le]
  rfl
  apply r_store
  exact rfl
  exact rfl
  exact rfl
  decide
  infer_instance
  exact rfl
  assumption
  (conv => (lhs; whnf))
  exact rfl
  (conv => (lhs; whnf))
  exact rfl
  exact of_decide_eq_true rfl
  exact setL_whole rfl
  apply r_op
  exact rfl
  exact rfl
  apply a_assign
  (conv => (lhs; whnf))
  with_reducible refine runs_done ?_
  refine W.ret ?_
  show Q Exit.ret _ _
  refine post_q hQ (by apply res_cell; exact rfl; exact setBox_same; exact aLoadA rfl (by rfl) rfl; apply res_tmp; exact rfl; exact res_nil) (.inl rfl) (by refine le_setBox ?_ (by assumption); assumption) ?_
  (conv => (lhs; whnf))
  rfl
theorem known_any (w0 : World) (hL : Laid w0) : CallP Tryd.prog w0 13 [] (.bool true) := by
  refine CallP.start Tryd.func13 rfl Tryd.ntmps13 (by simp) fun σ Q hQ => ?_
  refine W.seq ?_
  refine W.regionL (by decide +kernel) rfl ?_
  apply r_op
  exact rfl
  exact rfl
  apply a_assign
  (conv => (lhs; whnf))
  with_reducible refine runs_done ?_
  refine W.seq ?_
  refine W.regionL (by decide +kernel) rfl ?_
  apply r_op
  exact rfl
  exact rfl
  apply g_build
  apply a_build
  apply EvP.cons (by (conv => (lhs; whnf)))
  apply EvP.cons (by (conv => (lhs; whnf)))
  apply EvP.cons (by (conv => (lhs; whnf)))
  apply EvP.cons (by (conv => (lhs; whnf)))
  apply EvP.cons (by (conv => (lhs; whnf)))
  exact EvP.nil
  simp only [aFill, List.getElem?_cons_zero, List.getElem?_cons_succ, AV.cells, List.length_cons, List.length_nil, AV.flat, AV.one, setL, List.set_cons_zero, List.set_cons_succ, Nat.reduceAdd, Nat.reduceLeDiff, Nat.reduceMul, and_self, if_true, ↓reduceIte, Nat.zero_add, Nat.le_refl, List.range, List.range.loop, List.map_cons, List.map_nil, Nat.zero_le]
  rfl
  apply r_callP
  exact rfl
  exact rfl
  exact rfl
  exact rfl
  exact rfl
  infer_instance
  exact enc_xA w0 hL
  apply r_op
  exact rfl
  exact rfl
  apply a_assign
  (conv => (lhs; whnf))
  with_reducible refine runs_done ?_
  refine W.seq ?_
  refine W.regionL (by decide +kernel) rfl ?_
  apply r_op
  exact rfl
  exact rfl
  apply a_move
  (conv => (lhs; whnf))
  apply r_callP
  exact rfl
  exact rfl
  exact rfl
  exact rfl
  exact rfl
  infer_instance
  exact dec_known w0 hL
  apply r_op
  exact rfl
  exact rfl
  apply a_move
  (conv => (lhs; whnf))
  apply r_op
  exact rfl
  exact rfl
  apply g_extract
  exact a_extract rfl rfl
  apply r_op
  exact rfl
  exact rfl
  apply g_extract
  exact a_extract rfl rfl
  apply r_alloc
  exact rfl
  exact rfl
  decide
  exact rfl
  (conv => (lhs; whnf))
  intro b1 hb1
  apply r_store
  exact rfl
  exact rfl
  exact rfl
  decide
  infer_instance
  exact rfl
  exact setBox_same
  (conv => (lhs; whnf))
  exact rfl
  (conv => (lhs; whnf))
  exact rfl
  exact of_decide_eq_true rfl
  exact setL_whole rfl
  apply r_op
  exact rfl
  exact rfl
  apply a_assign
  (conv => (lhs; whnf))
  with_reducible refine runs_done ?_
  refine W.seq ?_
  refine W.regionL (by decide +kernel) rfl ?_
  apply r_callP
  exact rfl
  exact rfl
  exact rfl
  exact rfl
  exact rfl
  infer_instance
  exact dec_nil w0 hL
  apply r_op
  exact rfl
  exact rfl
  apply a_move
  (conv => (lhs; whnf))
  apply r_op
  exact rfl
  exact rfl
  apply g_extract
  exact a_extract rfl rfl
  apply r_op
  exact rfl
  exact rfl
  apply g_extract
  exact a_extract rfl rfl
  apply r_alloc
  exact rfl
  exact rfl
  decide
  exact rfl
  (conv => (lhs; whnf))
  intro b1 hb1
  apply r_store
  exact rfl
  exact rfl
  exact rfl
  decide
  infer_instance
  exact rfl
  exact setBox_same
  (conv => (lhs; whnf))
  exact rfl
  (conv => (lhs; whnf))
  exact rfl
  exact of_decide_eq_true rfl
  exact setL_whole rfl
  apply r_op
  exact rfl
  exact rfl
  apply a_assign
  (conv => (lhs; whnf))
  with_reducible refine runs_done ?_
  refine W.seq ?_
  refine W.regionL (by decide +kernel) rfl ?_
  apply r_op
  exact rfl
  exact rfl
  apply a_move
  (conv => (lhs; whnf))
  apply r_op
  exact rfl
  exact rfl
  apply g_call
  exact a_len_slc rfl
  apply r_op
  exact rfl
  exact rfl
  apply g_binOp
  exact a_binI rfl rfl rfl
  apply r_op
  exact rfl
  exact rfl
  apply a_move
  (conv => (lhs; whnf))
  apply r_op
  exact rfl
  exact rfl
  apply a_move
  (conv => (lhs; whnf))
  apply r_op
  exact rfl
  exact rfl
  apply g_binOp
  exact a_binI rfl rfl rfl
  apply r_op
  exact rfl
  exact rfl
  apply g_pick
  apply a_pickT rfl (by exact rfl)
  (conv => (lhs; whnf))
  apply r_op
  exact rfl
  exact rfl
  apply a_move
  (conv => (lhs; whnf))
  apply r_op
  exact rfl
  exact rfl
  apply g_fieldAddr
  exact a_fieldAddrP rfl (by decide)
  apply r_load
  exact rfl
  exact rfl
  exact rfl
  decide
  exact rfl
  apply hb_ne (by exact ne_none' (by assumption))
  apply hb_ne (by exact ne_none' (by assumption))
  exact setBox_same
  exact aLoad1 rfl
  apply r_op
  exact rfl
  exact rfl
  apply g_binOp
  exact a_binI rfl rfl rfl
  apply r_op
  exact rfl
  exact rfl
  apply g_pick
  apply a_pickT rfl (by exact rfl)
  (conv => (lhs; whnf))
  apply r_op
  exact rfl
  exact rfl
  apply a_move
  (conv => (lhs; whnf))
  apply r_op
  exact rfl
  exact rfl
  apply g_fieldAddr
  exact a_fieldAddrP rfl (by decide)
  apply r_load
  exact rfl
  exact rfl
  exact rfl
  decide
  exact rfl
  apply hb_ne (by exact ne_none' (by assumption))
  apply hb_ne (by exact ne_none' (by assumption))
  exact setBox_same
  exact aLoad1 rfl
  apply r_op
  exact rfl
  exact rfl
  apply g_binOp
  exact a_binS rfl rfl rfl rfl
  apply r_op
  exact rfl
  exact rfl
  apply g_pick
  apply a_pickT rfl (by exact rfl)
  (conv => (lhs; whnf))
  apply r_op
  exact rfl
  exact rfl
  apply a_move
  (conv => (lhs; whnf))
  apply r_op
  exact rfl
  exact rfl
  apply a_move
  (conv => (lhs; whnf))
  apply r_op
  exact rfl
  exact rfl
  apply g_binOp
  exact a_binI rfl rfl rfl
  apply r_op
  exact rfl
  exact rfl
  apply g_pick
  apply a_pickT rfl (by exact rfl)
  (conv => (lhs; whnf))
  apply r_op
  exact rfl
  exact rfl
  apply a_assign
  (conv => (lhs; whnf))
  with_reducible refine runs_done ?_
  refine W.ret ?_
  show Q Exit.ret _ _
  refine post_q hQ (by apply res_tmp; exact rfl; exact res_nil) (.inl rfl) (by refine le_setBox ?_ (by exact none_in (none_in (by assumption))); refine le_setBox ?_ (by exact none_in (none_in (by assumption))); refine le_setBox ?_ (by assumption); refine le_setBox ?_ (by assumption); exact .refl _) ?_
  (conv => (lhs; whnf))
  rfl
end Go.Proofs.YtkbmkhhcppfcnaaDoor
end
section
set_option linter.unusedVariables false
set_option linter.unusedSimpArgs false
set_option maxRecDepth 100000
set_option maxHeartbeats 400000
namespace Go.Proofs.YtkbmkhhcppfcnaaDoor
open Go.Al Go.RowKit
def gL (c : List UInt8) (i : Nat) : Nat := (c.getD i 0).toNat
theorem gL_lt (c : List UInt8) (i : Nat) : gL c i < 256 := (c.getD i 0).toNat_lt
theorem g_any (w0 : World) (c : List UInt8) (t : Tok) (i : Nat) : CallP Tryd.prog w0 83 [.slc 1 (aBytes c) t, .int .i64 i] (.int .i64 (gL c i)) := by
  refine CallP.start Tryd.func83 rfl Tryd.ntmps83 (by simp) fun σ Q hQ => ?_
  by_cases h : i < c.length
  · have ga : c[i]? = some (c.getD i 0) := by simp [h]
    have hb := gL_lt c i
    refine W.seq ?_
    refine W.regionL (by decide +kernel) rfl ?_
    apply r_op
    exact rfl
    exact rfl
    apply a_assign
    (conv => (lhs; whnf))
    with_reducible refine runs_done ?_
    refine W.seq ?_
    refine W.seq ?_
    refine W.regionL (by decide +kernel) rfl ?_
    apply r_op
    exact rfl
    exact rfl
    apply a_move
    (conv => (lhs; whnf))
    apply r_op
    exact rfl
    exact rfl
    apply a_move
    (conv => (lhs; whnf))
    apply r_op
    exact rfl
    exact rfl
    apply g_call
    exact a_len_slc rfl
    apply r_op
    exact rfl
    exact rfl
    apply g_binOp
    exact a_binI rfl rfl rfl
    with_reducible refine runs_done ?_
    refine W.cond rfl (fun hc => ?_) (fun hc => ?_)
    refine W.seq ?_
    refine W.regionL (by decide +kernel) rfl ?_
    apply r_op
    exact rfl
    exact rfl
    apply a_move
    (conv => (lhs; whnf))
    apply r_op
    exact rfl
    exact rfl
    apply a_move
    (conv => (lhs; whnf))
    apply r_op
    exact rfl
    exact rfl
    apply g_indexAddr
    exact a_indexAddr rfl rfl (by decide) (by omega) (by exact get_map (by assumption))
    apply r_op
    exact rfl
    exact rfl
    apply g_load
    exact a_load1 rfl rfl
    apply r_op
    exact rfl
    exact rfl
    apply g_convert
    exact a_convI rfl
    apply r_op
    exact rfl
    exact rfl
    apply a_assign
    (conv => (lhs; whnf))
    with_reducible refine runs_done ?_
    refine W.ret ?_
    show Q Exit.ret _ _
    refine post_q hQ (by apply res_tmp; exact rfl; exact res_nil) (.inl rfl) (by exact .refl _) ?_
    (conv => (lhs; whnf))
    rotate_left
    refine W.skip ?_
    show W _ _ _ _ _ _ _
    refine W.seq ?_
    refine W.regionL (by decide +kernel) rfl ?_
    apply r_op
    exact rfl
    exact rfl
    apply a_assign
    (conv => (lhs; whnf))
    with_reducible refine runs_done ?_
    refine W.ret ?_
    show Q Exit.ret _ _
    refine post_q hQ (by apply res_tmp; exact rfl; exact res_nil) (.inl rfl) (by exact .refl _) ?_
    (conv => (lhs; whnf))
    rotate_left
    · show AV.int .i64 (IntKind.i64.wrap _) = _
      rw [IntWalk.i64_in _ (by have := (c.getD i 0).toNat_lt; omega)]; rfl
    · simp [length_aBytes] at hc; omega
  · refine W.seq ?_
    refine W.regionL (by decide +kernel) rfl ?_
    apply r_op
    exact rfl
    exact rfl
    apply a_assign
    (conv => (lhs; whnf))
    with_reducible refine runs_done ?_
    refine W.seq ?_
    refine W.seq ?_
    refine W.regionL (by decide +kernel) rfl ?_
    apply r_op
    exact rfl
    exact rfl
    apply a_move
    (conv => (lhs; whnf))
    apply r_op
    exact rfl
    exact rfl
    apply a_move
    (conv => (lhs; whnf))
    apply r_op
    exact rfl
    exact rfl
    apply g_call
    exact a_len_slc rfl
    apply r_op
    exact rfl
    exact rfl
    apply g_binOp
    exact a_binI rfl rfl rfl
    with_reducible refine runs_done ?_
    refine W.cond rfl (fun hc => ?_) (fun hc => ?_)
    refine W.seq ?_
    refine W.regionL (by decide +kernel) rfl ?_
    apply r_op
    exact rfl
    exact rfl
    apply a_move
    (conv => (lhs; whnf))
    apply r_op
    exact rfl
    exact rfl
    apply a_move
    (conv => (lhs; whnf))
    rotate_left
    refine W.skip ?_
    show W _ _ _ _ _ _ _
    refine W.seq ?_
    refine W.regionL (by decide +kernel) rfl ?_
    apply r_op
    exact rfl
    exact rfl
    apply a_assign
    (conv => (lhs; whnf))
    with_reducible refine runs_done ?_
    refine W.ret ?_
    show Q Exit.ret _ _
    refine post_q hQ (by apply res_tmp; exact rfl; exact res_nil) (.inl rfl) (by exact .refl _) ?_
    (conv => (lhs; whnf))
    rotate_left
    · simp [length_aBytes] at hc; omega
    · have : c.getD i 0 = 0 := by simp [List.getD, List.getElem?_eq_none (Nat.le_of_not_lt h)]
      rw [gL, this]; rfl
def letter (k i : Nat) : UInt8 := UInt8.ofNat (97 + (i + k) % 26)
def textL (k most : Nat) : List UInt8 := (List.range (k % (most + 1))).map (letter k)
theorem textL_len (k most : Nat) : (textL k most).length ≤ most := by simp [textL]; have := Nat.mod_lt k (show 0 < most + 1 by omega); omega
theorem letter_eq (k i : Nat) : Al.byteOf (97 + ((Al.byteOf (((i : Int) + (k : Int)) % 26)).toNat : Int)) = letter k i := by
  have e : (((i : Int) + (k : Int)) % 26 : Int) = ((i + k) % 26 : Nat) := by omega
  rw [e, byteOf_toNat _ (by omega)]
  show Al.byteOf ((97 + (i + k) % 26 : Nat) : Int) = _
  simp only [Al.byteOf, letter]
  have : ((97 + (i + k) % 26 : Nat) : Int) % 256 = (97 + (i + k) % 26 : Nat) := by omega
  rw [this]; rfl
theorem lawtext_any (w0 : World) (k most : Nat) (hk : k ≤ 1000000000) (hm : most ≤ 1000000000) : CallP Tryd.prog w0 82 [.int .i64 k, .int .i64 most] (.str (textL k most)) := by
  refine CallP.start Tryd.func82 rfl Tryd.ntmps82 (by simp) fun σ Q hQ => ?_
  refine W.seq ?_
  refine W.regionL (by decide +kernel) rfl ?_
  apply r_op
  exact rfl
  exact rfl
  apply a_assign
  (conv => (lhs; whnf))
  with_reducible refine runs_done ?_
  refine W.seq ?_
  refine W.regionL (by decide +kernel) rfl ?_
  apply r_op
  exact rfl
  exact rfl
  apply a_assign
  (conv => (lhs; whnf))
  with_reducible refine runs_done ?_
  refine W.seq ?_
  refine W.seq ?_
  refine W.regionL (by decide +kernel) rfl ?_
  apply r_op
  exact rfl
  exact rfl
  apply a_assign
  (conv => (lhs; whnf))
  with_reducible refine runs_done ?_
  refine W.block ?_
  refine W.loop (fun n E s => ∃ i : Nat, i ≤ k % (most + 1) ∧ n = k % (most + 1) - i ∧ s = σ ∧ Has [(0, .int .i64 k), (1, .int .i64 most), (5, .str ((List.range i).map (letter k))), (6, .int .i64 i)] E) (k % (most + 1)) ⟨0, Nat.zero_le _, rfl, rfl, by exact Has.by (by repeat (first | exact trivial | refine ⟨by first | trivial | exact Weak.refl _ | exact Weak.tok _ _ _ | exact Weak.of_eq (congrArg (AV.int _) (by omega)) | exact Weak.nils _ _ (.inr rfl), ?_⟩))⟩ ?_
  rintro n E s ⟨i, hi, rfl, rfl, hE⟩
  refine W.has hE ?_
  clear hE
  have hlt := Nat.mod_lt k (show 0 < most + 1 by omega)
  have hmod : ((k % (most + 1) : Nat) : Int) = (k : Int) % ((most : Int) + 1) := by simp
  have hlen : ((List.range i).map (letter k)).length = i := by simp
  refine W.seq ?_
  refine W.seq ?_
  refine W.regionL (by decide +kernel) rfl ?_
  apply r_op
  exact rfl
  exact rfl
  apply a_move
  (conv => (lhs; whnf))
  apply r_op
  exact rfl
  exact rfl
  apply a_move
  (conv => (lhs; whnf))
  apply r_op
  exact rfl
  exact rfl
  apply a_move
  (conv => (lhs; whnf))
  apply r_op
  exact rfl
  exact rfl
  apply g_binOp
  exact a_add64 rfl rfl (by omega)
  apply r_op
  exact rfl
  exact rfl
  apply g_binOp
  exact a_rem rfl rfl (by omega)
  apply r_op
  exact rfl
  exact rfl
  apply g_binOp
  exact a_binI rfl rfl rfl
  with_reducible refine runs_done ?_
  refine W.cond rfl (fun hc => ?_) (fun hc => ?_)
  refine W.skip ?_
  show W _ _ _ _ _ _ _
  refine W.seq ?_
  refine W.block ?_
  refine W.regionL (by decide +kernel) rfl ?_
  apply r_op
  exact rfl
  exact rfl
  apply a_move
  (conv => (lhs; whnf))
  apply r_op
  exact rfl
  exact rfl
  apply a_move
  (conv => (lhs; whnf))
  apply r_op
  exact rfl
  exact rfl
  apply a_move
  (conv => (lhs; whnf))
  apply r_op
  exact rfl
  exact rfl
  apply g_binOp
  exact a_add64 rfl rfl (by omega)
  apply r_op
  exact rfl
  exact rfl
  apply g_binOp
  exact a_rem rfl rfl (by omega)
  apply r_op
  exact rfl
  exact rfl
  apply g_convert
  exact a_convB rfl
  apply r_op
  exact rfl
  exact rfl
  apply g_binOp
  exact a_u8add rfl rfl
  apply r_op
  exact rfl
  exact rfl
  apply g_buildSlice
  apply a_build1
  (conv => (lhs; whnf))
  exact rfl
  exact rfl
  decide
  apply r_op
  exact rfl
  exact rfl
  apply g_convert
  exact a_bytesStrX rfl (by apply toB_cons; exact toB_nil)
  apply r_op
  exact rfl
  exact rfl
  apply g_binOp
  exact a_addS rfl rfl (by simp only [length_aBytes, List.length_append, List.length_cons, List.length_nil, List.length_map, List.length_range]; omega)
  apply r_op
  exact rfl
  exact rfl
  apply a_assign
  (conv => (lhs; whnf))
  with_reducible refine runs_done ?_
  refine W.regionL (by decide +kernel) rfl ?_
  apply r_op
  exact rfl
  exact rfl
  apply a_move
  (conv => (lhs; whnf))
  apply r_op
  exact rfl
  exact rfl
  apply g_binOp
  exact a_add64 rfl rfl (by omega)
  apply r_op
  exact rfl
  exact rfl
  apply a_assign
  (conv => (lhs; whnf))
  with_reducible refine runs_done ?_
  rotate_left
  refine W.exit ?_
  show W _ _ _ _ _ _ _
  refine W.seq ?_
  refine W.regionL (by decide +kernel) rfl ?_
  apply r_op
  exact rfl
  exact rfl
  apply a_move
  (conv => (lhs; whnf))
  apply r_op
  exact rfl
  exact rfl
  apply a_assign
  (conv => (lhs; whnf))
  with_reducible refine runs_done ?_
  refine W.ret ?_
  show Q Exit.ret _ _
  refine post_q hQ (by apply res_tmp; exact rfl; exact res_nil) (.inl rfl) (by exact .refl _) ?_
  (conv => (lhs; whnf))
  rotate_left
  · have h1 : i < k % (most + 1) := by rw [← hmod] at hc; simp only [decide_eq_true_eq] at hc; omega
    refine ⟨k % (most + 1) - (i + 1), by omega, i + 1, by omega, rfl, rfl, ?_⟩
    rw [List.range_succ, List.map_append]
    simp only [List.map_cons, List.map_nil]
    rw [← letter_eq]
    exact Has.by (by repeat (first | exact trivial | refine ⟨by first | trivial | exact Weak.refl _ | exact Weak.tok _ _ _ | exact Weak.of_eq (congrArg (AV.int _) (by omega)) | exact Weak.nils _ _ (.inr rfl), ?_⟩))
  · have h1 : i = k % (most + 1) := by rw [← hmod] at hc; simp only [decide_eq_false_iff_not] at hc; omega
    rw [h1]; rfl
end Go.Proofs.YtkbmkhhcppfcnaaDoor
end
section
set_option linter.unusedVariables false
namespace Go.Proofs.YtkbmkhhcppfcnaaDoor
open Go.Al
def Rise : Int → List Int → Prop
  | _, [] => True
  | lo, a :: l => lo < a ∧ Rise a l
theorem Rise.snoc : ∀ {l : List Int} {lo b : Int}, Rise lo l → lo < b → (∀ a ∈ l, a < b) → Rise lo (l ++ [b])
  | [], lo, b, _, h, _ => ⟨h, trivial⟩
  | a :: l, lo, b, h, hb, ha => ⟨h.1, Rise.snoc h.2 (ha a (by simp)) fun c hc => ha c (by simp [hc])⟩
theorem Rise.lt : ∀ {l : List Int} {lo : Int}, Rise lo l → ∀ a ∈ l, lo < a
  | [], _, _, a, h => by simp at h
  | b :: l, lo, h, a, ha => by
    rcases List.mem_cons.1 ha with rfl | ha
    · exact h.1
    · have := Rise.lt h.2 a ha
      have := h.1
      omega
structure MsgOk (clock most lease : Int) (m : Msg) : Prop where
  body : m.body.length ≤ 60
  attr : m.attr = [] ∨ m.attr = [97, 61, 49] ∨ m.attr = [98, 61, 50]
  prio : 0 ≤ m.prio ∧ m.prio ≤ 9
  st : (m.dead = false ∧ m.why = [] ∧ m.until_ = 0 ∧ 0 ≤ m.tries ∧ m.tries < most) ∨ (m.dead = false ∧ m.why = [] ∧ (1 ≤ m.tries ∧ m.tries ≤ most) ∧ clock < m.until_ ∧ m.until_ ≤ clock + lease) ∨
    (m.dead = true ∧ m.until_ = 0 ∧ m.tries = most ∧ (m.why = [110, 97, 99, 107] ∨ m.why = [116, 105, 109, 101]))
def TopicOk (v : List UInt8) : Prop := v = [35] ∨ v = [97] ∨ v = [97, 47, 43] ∨ v = [98, 47, 35]
def WantOk (v : List UInt8) : Prop := v = [] ∨ v = [97, 61, 49] ∨ v = [97, 61, 49, 44, 98, 61, 50]
structure Grown (id clock next : Nat) (x : Sub) : Prop where
  name : ∃ k, k < 256 ∧ x.name = 110 :: textL k 19
  topic : TopicOk x.topic
  want : WantOk x.want
  note : x.note.length ≤ 30
  id : x.id = id
  most : 1 ≤ x.most ∧ x.most ≤ 9
  lease : 1 ≤ x.lease ∧ x.lease ≤ 1000
  floor : 0 ≤ x.floor ∧ x.floor < next
  nacks : x.acks.length ≤ 20
  nqueue : x.queue.length ≤ 30
  rise : Rise x.floor x.acks
  high : ∀ a ∈ x.acks, a < next
  qrise : Rise x.floor (x.queue.map Msg.seq)
  qhigh : ∀ m ∈ x.queue, m.seq < next
  apart : ∀ a ∈ x.acks, ∀ m ∈ x.queue, a ≠ m.seq
  msgs : ∀ m ∈ x.queue, MsgOk clock x.most x.lease m
theorem TopicOk.len {v : List UInt8} (h : TopicOk v) : v.length ≤ 30 := by rcases h with rfl | rfl | rfl | rfl <;> decide
theorem WantOk.len {v : List UInt8} (h : WantOk v) : v.length ≤ 30 := by rcases h with rfl | rfl | rfl <;> decide
theorem MsgOk.alen {c m l : Int} {x : Msg} (h : MsgOk c m l x) : x.attr.length ≤ 30 := by rcases h.attr with e | e | e <;> rw [e] <;> decide
theorem Grown.nlen {id clock next : Nat} {x : Sub} (h : Grown id clock next x) : x.name.length ≤ 20 := by
  obtain ⟨k, _, e⟩ := h.name
  have := textL_len k 19
  rw [e]; simp; omega
theorem Grown.fits {id clock next : Nat} {x : Sub} (h : Grown id clock next x) : Fits x :=
  ⟨by have := h.nlen; omega, by have := h.topic.len; omega, by have := h.want.len; omega, by have := h.note; omega, by have := h.nacks; omega, by have := h.nqueue; omega,
    fun m hm => by have h1 := h.msgs m hm; have := h1.body; have := h1.alen; omega⟩
structure UpTo (x : Sub) (seq : Int) : Prop where
  floor : x.floor ≤ seq
  acks : ∀ a ∈ x.acks, a ≤ seq
  queue : ∀ m ∈ x.queue, m.seq ≤ seq
theorem Grown.withNote {id clock next : Nat} {x : Sub} (h : Grown id clock next x) {s : List UInt8} (hs : s.length ≤ 30) : Grown id clock next { x with note := s } :=
  ⟨h.name, h.topic, h.want, hs, h.id, h.most, h.lease, h.floor, h.nacks, h.nqueue, h.rise, h.high, h.qrise, h.qhigh, h.apart, h.msgs⟩
theorem Grown.ack {id clock next : Nat} {x : Sub} (h : Grown id clock next x) {seq s : Int} (hu : UpTo x seq) (hs : seq < s) (hn : s < next) (hl : x.acks.length < 20) : Grown id clock next { x with acks := x.acks ++ [s] } ∧ UpTo { x with acks := x.acks ++ [s] } s := by
  have hf := hu.floor
  refine ⟨⟨h.name, h.topic, h.want, h.note, h.id, h.most, h.lease, h.floor, by simp; omega, h.nqueue, h.rise.snoc (by omega) fun a ha => by have := hu.acks a ha; omega, ?_, h.qrise, h.qhigh, ?_, h.msgs⟩, ⟨by show x.floor ≤ s; omega, ?_, fun m hm => by have := hu.queue m hm; omega⟩⟩
  · intro a ha
    rcases List.mem_append.1 ha with ha | ha
    · exact h.high a ha
    · obtain rfl := List.mem_singleton.1 ha; exact hn
  · intro a ha m hm
    rcases List.mem_append.1 ha with ha | ha
    · exact h.apart a ha m hm
    · obtain rfl := List.mem_singleton.1 ha
      have := hu.queue m hm
      omega
  · intro a ha
    rcases List.mem_append.1 ha with ha | ha
    · have := hu.acks a ha; omega
    · obtain rfl := List.mem_singleton.1 ha; exact Int.le_refl _
theorem Grown.msg {id clock next : Nat} {x : Sub} (h : Grown id clock next x) {seq : Int} {m : Msg} (hu : UpTo x seq) (hs : seq < m.seq) (hn : m.seq < next) (hl : x.queue.length < 30) (hm : MsgOk clock x.most x.lease m) : Grown id clock next { x with queue := x.queue ++ [m] } ∧ UpTo { x with queue := x.queue ++ [m] } m.seq := by
  have hf := hu.floor
  refine ⟨⟨h.name, h.topic, h.want, h.note, h.id, h.most, h.lease, h.floor, h.nacks, by simp; omega, h.rise, h.high, ?_, ?_, ?_, ?_⟩, ⟨by show x.floor ≤ m.seq; omega, fun a ha => by have := hu.acks a ha; omega, ?_⟩⟩
  · show Rise x.floor ((x.queue ++ [m]).map Msg.seq)
    rw [List.map_append]
    refine h.qrise.snoc (by omega) fun a ha => ?_
    obtain ⟨y, hy, rfl⟩ := List.mem_map.1 ha
    have := hu.queue y hy; omega
  · intro a ha
    rcases List.mem_append.1 ha with ha | ha
    · exact h.qhigh a ha
    · obtain rfl := List.mem_singleton.1 ha; exact hn
  · intro a ha y hy
    rcases List.mem_append.1 hy with hy | hy
    · exact h.apart a ha y hy
    · obtain rfl := List.mem_singleton.1 hy
      have := hu.acks a ha
      omega
  · intro y hy
    rcases List.mem_append.1 hy with hy | hy
    · exact h.msgs y hy
    · obtain rfl := List.mem_singleton.1 hy; exact hm
  · intro y hy
    rcases List.mem_append.1 hy with hy | hy
    · have := hu.queue y hy; omega
    · obtain rfl := List.mem_singleton.1 hy; exact Int.le_refl _
end Go.Proofs.YtkbmkhhcppfcnaaDoor
end
section
set_option linter.unusedVariables false
set_option linter.unusedSimpArgs false
set_option maxRecDepth 100000
set_option maxHeartbeats 2000000
namespace Go.Proofs.YtkbmkhhcppfcnaaDoor
open Go.Al Go.RowKit
def subC (x : Sub) (ta tq : Tok) : List AV := [.int .i64 x.id, .str x.name, .str x.topic, .str x.want, .int .i64 x.lease, .int .i64 x.most, .int .i64 x.floor, .slc 1 (x.acks.map (.int .i64)) ta, .slc 8 (x.queue.map eMsg) tq, .str x.note]
def msgC (m : Msg) : List AV := [.int .i64 m.seq, .str m.body, .str m.attr, .int .i64 m.tries, .int .i64 m.until_, .bool m.dead, .str m.why, .int .i64 m.prio]
theorem weak_sub (x : Sub) (ta tq : Tok) : Weak (eSub x) (.agg (subC x ta tq)) := .agg (.cons (.refl _) (.cons (.refl _) (.cons (.refl _) (.cons (.refl _) (.cons (.refl _) (.cons (.refl _) (.cons (.refl _) (.cons (.tok _ _ _) (.cons (.tok _ _ _) (.cons (.refl _) .nil)))))))))) (by simp [AV.one, eInts, eMsgs])
def z10 : List AV := [.int .i64 0, .str [], .str [], .str [], .int .i64 0, .int .i64 0, .int .i64 0, .nils, .nils, .str []]
structure InSub (σ s : St) (b8 bx : Nat) (x : Sub) (ta tq : Tok) : Prop where
  r : s.box b8 = some z10
  b : s.box bx = some (subC x ta tq)
  ma : Moves σ .full s ta
  mq : Moves σ .full s tq
  d : ∀ p, tq = .own p → ta ≠ .own p
theorem InSub.set {σ s : St} {b8 bx : Nat} {x x' : Sub} {ta tq : Tok} (h : InSub σ s b8 bx x ta tq) (hne : b8 ≠ bx) (hbx : σ.box bx = none) : InSub σ (s.setBox bx (subC x' ta tq)) b8 bx x' ta tq :=
  ⟨hb_ne hne h.r, setBox_same, h.ma.new hbx, h.mq.new hbx, h.d⟩
theorem InSub.other {σ s : St} {b8 bx b : Nat} {x : Sub} {ta tq : Tok} {cs : List AV} (h : InSub σ s b8 bx x ta tq) (h8 : b8 ≠ b) (hx : bx ≠ b) (hb : σ.box b = none) : InSub σ (s.setBox b cs) b8 bx x ta tq :=
  ⟨hb_ne h8 h.r, hb_ne hx h.b, h.ma.new hb, h.mq.new hb, h.d⟩
theorem InSub.acks {σ s σ1 : St} {b8 bx : Nat} {x x' : Sub} {ta tq tk : Tok} (h : InSub σ s b8 bx x ta tq) (hne : b8 ≠ bx) (hbx : σ.box bx = none) (hm : Moves s ta σ1 tk) : InSub σ (σ1.setBox bx (subC x' tk tq)) b8 bx x' tk tq := by
  obtain ⟨h1, h2, h3⟩ := Moves.two h.ma h.mq h.d hm
  exact ⟨hb_ne hne (hm.box _ _ h.r), setBox_same, h1.new hbx, h2.new hbx, h3⟩
theorem InSub.queue {σ s σ1 : St} {b8 bx : Nat} {x x' : Sub} {ta tq tk : Tok} (h : InSub σ s b8 bx x ta tq) (hne : b8 ≠ bx) (hbx : σ.box bx = none) (hm : Moves s tq σ1 tk) : InSub σ (σ1.setBox bx (subC x' ta tk)) b8 bx x' ta tk := by
  obtain ⟨h1, h2, h3⟩ := Moves.two h.mq h.ma (fun p e e' => h.d p e' e) hm
  exact ⟨hb_ne hne (hm.box _ _ h.r), setBox_same, h2.new hbx, h1.new hbx, fun p e e' => h3 p e' e⟩
theorem sub_any (w0 : World) (c : List UInt8) (t : Tok) (id clock next : Nat) (hc : c.length ≤ 9223372036854775807) (hid : id ≤ 1000) (hclock : clock ≤ 100000000) (hnext : 1 ≤ next ∧ next ≤ 100000) (σ : St) :
    CallW Tryd.prog w0 33 [.slc 1 (aBytes c) t, .int .i64 id, .int .i64 clock, .int .i64 next] σ (fun r s => ∃ x, r = eSub x ∧ Grown id clock next x ∧ s = σ) := by
  refine CallW.start Tryd.func33 rfl Tryd.ntmps33 (by simp) fun Q hQ => ?_
  have g0 := gL_lt c 0
  have g1 := gL_lt c 1
  have g2 := gL_lt c 2
  have g3 := gL_lt c 3
  have g4 := gL_lt c 4
  have hm0 : gL c 0 % 20 ≤ 19 := by omega
  have hlt0 := textL_len (gL c 0) 19
  refine W.seq ?_
  refine W.regionL (by decide +kernel) rfl ?_
  apply r_alloc
  exact rfl
  exact rfl
  decide
  exact rfl
  (conv => (lhs; whnf))
  intro b1 hb1
  refine runs_done ?_
  show W _ _ _ _ _ _ _
  obtain ⟨tp, htp, htl⟩ : ∃ v : List UInt8, [AV.str [35], .str [97], .str [97, 47, 43], .str [98, 47, 35]][((gL c 1 : Int) % 4).toNat]? = some (.str v) ∧ TopicOk v := by
    have h : gL c 1 % 4 < 4 := Nat.mod_lt _ (by decide)
    rw [show ((gL c 1 : Int) % 4).toNat = gL c 1 % 4 by omega]
    generalize gL c 1 % 4 = q at h
    match q, h with
    | 0, _ => exact ⟨_, rfl, .inl rfl⟩
    | 1, _ => exact ⟨_, rfl, .inr (.inl rfl)⟩
    | 2, _ => exact ⟨_, rfl, .inr (.inr (.inl rfl))⟩
    | 3, _ => exact ⟨_, rfl, .inr (.inr (.inr rfl))⟩
  obtain ⟨wn, hwn, hwl⟩ : ∃ v : List UInt8, [AV.str [], .str [97, 61, 49], .str [97, 61, 49, 44, 98, 61, 50]][((gL c 1 : Int) / 4 % 3).toNat]? = some (.str v) ∧ WantOk v := by
    have h : gL c 1 / 4 % 3 < 3 := Nat.mod_lt _ (by decide)
    rw [show ((gL c 1 : Int) / 4 % 3).toNat = gL c 1 / 4 % 3 by omega]
    generalize gL c 1 / 4 % 3 = q at h
    match q, h with
    | 0, _ => exact ⟨_, rfl, .inl rfl⟩
    | 1, _ => exact ⟨_, rfl, .inr (.inl rfl)⟩
    | 2, _ => exact ⟨_, rfl, .inr (.inr rfl)⟩
  refine W.seq ?_
  refine W.regionDK 0 [] Ty.mixed (by decide +kernel) (by decide +kernel) rfl ?_
  apply r_op
  exact rfl
  exact rfl
  apply a_move
  (conv => (lhs; whnf))
  apply r_op
  exact rfl
  exact rfl
  apply a_move
  (conv => (lhs; whnf))
  apply r_callP
  exact rfl
  exact rfl
  exact rfl
  exact rfl
  exact rfl
  infer_instance
  exact g_any w0 c t 0
  apply r_callP
  exact rfl
  exact rfl
  exact rfl
  exact rfl
  exact rfl
  infer_instance
  exact lawtext_any w0 (gL c 0) 19 (by omega) (by omega)
  apply r_op
  exact rfl
  exact rfl
  apply g_binOp
  exact a_addS rfl rfl (by simp only [length_aBytes, List.length_append, List.length_cons, List.length_nil, List.length_map, List.length_range]; omega)
  apply r_op
  exact rfl
  exact rfl
  apply g_buildSlice
  apply a_buildN
  apply EvP.cons (by (conv => (lhs; whnf)))
  apply EvP.cons (by (conv => (lhs; whnf)))
  apply EvP.cons (by (conv => (lhs; whnf)))
  apply EvP.cons (by (conv => (lhs; whnf)))
  exact EvP.nil
  (conv => (lhs; whnf))
  exact rfl
  exact rfl
  decide
  apply r_op
  exact rfl
  exact rfl
  apply a_move
  (conv => (lhs; whnf))
  apply r_callP
  exact rfl
  exact rfl
  exact rfl
  exact rfl
  exact rfl
  infer_instance
  exact g_any w0 c t 1
  apply r_op
  exact rfl
  exact rfl
  apply g_binOp
  exact a_rem rfl rfl (by omega)
  apply r_op
  exact rfl
  exact rfl
  apply g_indexAddr
  exact a_indexAddr rfl rfl (by decide) (by omega) (by assumption)
  apply r_op
  exact rfl
  exact rfl
  apply g_load
  exact a_load1 rfl rfl
  apply r_op
  exact rfl
  exact rfl
  apply g_buildSlice
  apply a_buildN
  apply EvP.cons (by (conv => (lhs; whnf)))
  apply EvP.cons (by (conv => (lhs; whnf)))
  apply EvP.cons (by (conv => (lhs; whnf)))
  exact EvP.nil
  (conv => (lhs; whnf))
  exact rfl
  exact rfl
  decide
  apply r_op
  exact rfl
  exact rfl
  apply a_move
  (conv => (lhs; whnf))
  apply r_callP
  exact rfl
  exact rfl
  exact rfl
  exact rfl
  exact rfl
  infer_instance
  exact g_any w0 c t 1
  apply r_op
  exact rfl
  exact rfl
  apply g_binOp
  exact a_quo64 rfl rfl (by omega)
  apply r_op
  exact rfl
  exact rfl
  apply g_binOp
  exact a_rem rfl rfl (by omega)
  apply r_op
  exact rfl
  exact rfl
  apply g_indexAddr
  exact a_indexAddr rfl rfl (by decide) (by omega) (by assumption)
  apply r_op
  exact rfl
  exact rfl
  apply g_load
  exact a_load1 rfl rfl
  apply r_op
  exact rfl
  exact rfl
  apply a_move
  (conv => (lhs; whnf))
  apply r_callP
  exact rfl
  exact rfl
  exact rfl
  exact rfl
  exact rfl
  infer_instance
  exact g_any w0 c t 2
  apply r_op
  exact rfl
  exact rfl
  apply g_binOp
  exact a_mul64 rfl rfl (by omega)
  apply r_op
  exact rfl
  exact rfl
  apply g_binOp
  exact a_add64 rfl rfl (by omega)
  apply r_op
  exact rfl
  exact rfl
  apply a_move
  (conv => (lhs; whnf))
  apply r_callP
  exact rfl
  exact rfl
  exact rfl
  exact rfl
  exact rfl
  infer_instance
  exact g_any w0 c t 3
  apply r_op
  exact rfl
  exact rfl
  apply g_binOp
  exact a_rem rfl rfl (by omega)
  apply r_op
  exact rfl
  exact rfl
  apply g_binOp
  exact a_add64 rfl rfl (by omega)
  apply r_op
  exact rfl
  exact rfl
  apply a_move
  (conv => (lhs; whnf))
  apply r_callP
  exact rfl
  exact rfl
  exact rfl
  exact rfl
  exact rfl
  infer_instance
  exact g_any w0 c t 4
  apply r_op
  exact rfl
  exact rfl
  apply a_move
  (conv => (lhs; whnf))
  apply r_op
  exact rfl
  exact rfl
  apply g_binOp
  exact a_rem rfl rfl (by omega)
  apply r_op
  exact rfl
  exact rfl
  apply g_build
  apply a_build
  apply EvP.cons (by (conv => (lhs; whnf)))
  apply EvP.cons (by (conv => (lhs; whnf)))
  apply EvP.cons (by (conv => (lhs; whnf)))
  apply EvP.cons (by (conv => (lhs; whnf)))
  apply EvP.cons (by (conv => (lhs; whnf)))
  apply EvP.cons (by (conv => (lhs; whnf)))
  apply EvP.cons (by (conv => (lhs; whnf)))
  exact EvP.nil
  simp only [aFill, List.getElem?_cons_zero, List.getElem?_cons_succ, AV.cells, List.length_cons, List.length_nil, AV.flat, AV.one, setL, List.set_cons_zero, List.set_cons_succ, Nat.reduceAdd, Nat.reduceLeDiff, Nat.reduceMul, and_self, if_true, ↓reduceIte, Nat.zero_add, Nat.le_refl, List.range, List.range.loop, List.map_cons, List.map_nil, Nat.zero_le]
  rfl
  apply r_alloc
  exact rfl
  exact rfl
  decide
  exact rfl
  (conv => (lhs; whnf))
  intro b1 hb1
  apply r_store
  exact rfl
  exact rfl
  exact rfl
  decide
  infer_instance
  exact rfl
  exact setBox_same
  (conv => (lhs; whnf))
  exact rfl
  (conv => (lhs; whnf))
  exact rfl
  exact of_decide_eq_true rfl
  exact setL_whole rfl
  refine runs_done ?_
  show W _ _ _ _ _ _ _
  rename_i b8 hb8
  have hne : b8 ≠ b1 := ne_none' hb1
  have hbx : σ.box b1 = none := none_in hb1
  generalize b1 = bx at hne hbx hb1 ⊢
  generalize hx1 : (⟨id, [110] ++ textL (gL c 0) 19, tp, wn, 1 + (gL c 2 : Int) * 3, 1 + (gL c 3 : Int) % 9, (gL c 4 : Int) % (next : Int), [], [], []⟩ : Sub) = x1
  have hs1 : InSub σ (((σ.setBox b8 z10).setBox bx z10).setBox bx (subC x1 .full .full)) b8 bx x1 .full .full := by
    rw [setBox_setBox]
    exact ⟨hb_ne hne setBox_same, setBox_same, ((Moves.full σ).new hb8).new hbx, ((Moves.full σ).new hb8).new hbx, fun p e => by cases e⟩
  have hgr : Grown id clock next x1 := by
    subst hx1
    refine ⟨⟨gL c 0, g0, rfl⟩, htl, hwl, by simp, rfl, ?_, ?_, ?_, by simp, by simp, trivial, by simp, trivial, by simp, by simp, by simp⟩
    · show 1 ≤ 1 + (gL c 3 : Int) % 9 ∧ 1 + (gL c 3 : Int) % 9 ≤ 9; omega
    · show 1 ≤ 1 + (gL c 2 : Int) * 3 ∧ 1 + (gL c 2 : Int) * 3 ≤ 1000; omega
    · exact ⟨Int.emod_nonneg _ (by omega), Int.emod_lt_of_pos _ (by omega)⟩
  have hup : UpTo x1 x1.floor := by subst hx1; exact ⟨Int.le_refl _, by simp, by simp⟩
  refine W.weakBox (b := bx) (ds := subC x1 .full .full) setBox_same ?_ ?_
  · subst hx1
    exact .cons (.refl _) (.cons (.refl _) (.cons (.refl _) (.cons (.refl _) (.cons (.refl _) (.cons (.refl _) (.cons (.refl _) (.cons (.nils 1 .full (.inr rfl)) (.cons (.nils 8 .full (.inr rfl)) (.cons (.refl _) .nil)))))))))
  rw [setBox_setBox, setBox_setBox]
  rw [setBox_setBox] at hs1
  change W Tryd.prog w0 _ _ _ _ ((σ.setBox b8 z10).setBox bx (subC x1 .full .full))
  generalize (σ.setBox b8 z10).setBox bx (subC x1 .full .full) = s1 at hs1 ⊢
  have hlt5 := textL_len (gL c 5) 30
  have g5 := gL_lt c 5
  refine W.seq ?_
  refine W.meet (fun E s => ∃ x, Grown id clock next x ∧ UpTo x x.floor ∧ InSub σ s b8 bx x .full .full ∧ Has [(0, .slc 1 (aBytes c) t), (2, .int .i64 clock), (3, .int .i64 next), (8, .ptr b8 0), (9, .ptr bx 0)] E) ?_ ?_
  · have hb1 := hs1.b
    refine W.seq ?_
    refine W.regionL (by decide +kernel) rfl ?_
    apply r_op
    exact rfl
    exact rfl
    apply a_move
    (conv => (lhs; whnf))
    apply r_callP
    exact rfl
    exact rfl
    exact rfl
    exact rfl
    exact rfl
    infer_instance
    exact g_any w0 c t 5
    apply r_op
    exact rfl
    exact rfl
    apply g_binOp
    exact a_binI rfl rfl rfl
    with_reducible refine runs_done ?_
    refine W.cond rfl (fun hc => ?_) (fun hc => ?_)
    · refine W.regionL (by decide +kernel) rfl ?_
      apply r_op
      exact rfl
      exact rfl
      apply a_move
      (conv => (lhs; whnf))
      apply r_callP
      exact rfl
      exact rfl
      exact rfl
      exact rfl
      exact rfl
      infer_instance
      exact g_any w0 c t 5
      apply r_callP
      exact rfl
      exact rfl
      exact rfl
      exact rfl
      exact rfl
      infer_instance
      exact lawtext_any w0 (gL c 5) 30 (by omega) (by omega)
      apply r_op
      exact rfl
      exact rfl
      apply g_fieldAddr
      exact a_fieldAddrP rfl (by decide)
      apply r_store
      exact rfl
      exact rfl
      exact rfl
      decide
      infer_instance
      exact rfl
      assumption
      (conv => (lhs; whnf))
      exact rfl
      (conv => (lhs; whnf))
      exact rfl
      exact of_decide_eq_true rfl
      exact rfl
      with_reducible refine runs_done ?_
      exact ⟨{ x1 with note := textL (gL c 5) 30 }, hgr.withNote hlt5, ⟨hup.floor, hup.acks, hup.queue⟩, hs1.set (x' := { x1 with note := textL (gL c 5) 30 }) hne hbx, by exact Has.by (by repeat (first | exact trivial | refine ⟨by first | trivial | exact Weak.refl _ | exact Weak.tok _ _ _ | exact Weak.of_eq (congrArg (AV.int _) (by omega)) | exact Weak.nils _ _ (.inr rfl), ?_⟩))⟩
    · refine W.skip ?_
      exact ⟨x1, hgr, hup, hs1, by exact Has.by (by repeat (first | exact trivial | refine ⟨by first | trivial | exact Weak.refl _ | exact Weak.tok _ _ _ | exact Weak.of_eq (congrArg (AV.int _) (by omega)) | exact Weak.nils _ _ (.inr rfl), ?_⟩))⟩
  · rintro E s ⟨x, hgr, hup, hs, hE⟩
    refine W.has hE ?_
    clear hE hs1
    have hb := hs.b
    refine W.seq ?_
    refine W.regionL (by decide +kernel) rfl ?_
    apply r_op
    exact rfl
    exact rfl
    apply g_fieldAddr
    exact a_fieldAddrP rfl (by decide)
    apply r_load
    exact rfl
    exact rfl
    exact rfl
    decide
    exact rfl
    assumption
    exact aLoad1 rfl
    apply r_op
    exact rfl
    exact rfl
    apply a_assign
    (conv => (lhs; whnf))
    refine runs_done ?_
    show W _ _ _ _ _ _ _
    refine W.seq ?_
    refine W.meet (fun E s => ∃ x ta tq, Grown id clock next x ∧ InSub σ s b8 bx x ta tq ∧ Has [(8, .ptr b8 0), (9, .ptr bx 0)] E) ?_ ?_
    · refine W.seq ?_
      refine W.regionL (by decide +kernel) rfl ?_
      apply r_op
      exact rfl
      exact rfl
      apply a_assign
      (conv => (lhs; whnf))
      with_reducible refine runs_done ?_
      refine W.block ?_
      refine W.loop (fun k E s => ∃ (i : Nat) (seq : Int) (x : Sub) (ta tq : Tok), k = 100 - i ∧ 6 ≤ i ∧ i ≤ 69 ∧ 0 ≤ seq ∧ seq < next ∧ Grown id clock next x ∧ UpTo x seq ∧ InSub σ s b8 bx x ta tq ∧ Has [(0, .slc 1 (aBytes c) t), (2, .int .i64 clock), (3, .int .i64 next), (8, .ptr b8 0), (9, .ptr bx 0), (10, .int .i64 seq), (11, .int .i64 i)] E) 94 ⟨6, x.floor, x, .full, .full, rfl, by omega, by omega, hgr.floor.1, hgr.floor.2, hgr, hup, hs, by exact Has.by (by repeat (first | exact trivial | refine ⟨by first | trivial | exact Weak.refl _ | exact Weak.tok _ _ _ | exact Weak.of_eq (congrArg (AV.int _) (by omega)) | exact Weak.nils _ _ (.inr rfl), ?_⟩))⟩ ?_
      clear hup hs hb hgr x
      rintro k E s ⟨i, seq, x, ta, tq, rfl, hi6, hi69, hs0, hsn, hgr, hup, hs, hE⟩
      refine W.has hE ?_
      clear hE
      have hb := hs.b
      have hla := length_aBytes c
      by_cases hlen : ¬ (i + 3 < c.length)
      · have d1 : decide ((i : Int) + 3 < ((aBytes c).length : Int)) = false := decide_eq_false (by rw [hla]; omega)
        refine W.seq ?_
        refine W.seq ?_
        refine W.regionL (by decide +kernel) rfl ?_
        apply r_op
        exact rfl
        exact rfl
        apply a_move
        (conv => (lhs; whnf))
        apply r_op
        exact rfl
        exact rfl
        apply g_binOp
        exact a_add64 rfl rfl (by omega)
        apply r_op
        exact rfl
        exact rfl
        apply a_move
        (conv => (lhs; whnf))
        apply r_op
        exact rfl
        exact rfl
        apply g_call
        exact a_len_slc rfl
        apply r_op
        exact rfl
        exact rfl
        apply g_binOp
        exact a_binI rfl rfl rfl
        apply r_op
        exact rfl
        exact rfl
        apply a_move
        (conv => (lhs; whnf))
        apply q_skip
        exact rfl
        exact want_f rfl rfl rfl (by assumption)
        apply q_skip
        exact rfl
        exact want_f rfl rfl rfl (by assumption)
        apply r_op
        exact rfl
        exact rfl
        apply g_pick
        apply a_pickF rfl (by assumption)
        (conv => (lhs; whnf))
        with_reducible refine runs_done ?_
        refine W.condF rfl (by exact rfl) ?_
        refine W.exit ?_
        exact ⟨x, ta, tq, hgr, hs, by exact Has.by (by repeat (first | exact trivial | refine ⟨by first | trivial | exact Weak.refl _ | exact Weak.tok _ _ _ | exact Weak.of_eq (congrArg (AV.int _) (by omega)) | exact Weak.nils _ _ (.inr rfl), ?_⟩))⟩
      have hlen := Decidable.of_not_not hlen
      have d1 : decide ((i : Int) + 3 < ((aBytes c).length : Int)) = true := decide_eq_true (by rw [hla]; omega)
      by_cases h66 : ¬ (i < 66)
      · have d2 : decide ((i : Int) < 66) = false := decide_eq_false (by omega)
        refine W.seq ?_
        refine W.seq ?_
        refine W.regionL (by decide +kernel) rfl ?_
        apply r_op
        exact rfl
        exact rfl
        apply a_move
        (conv => (lhs; whnf))
        apply r_op
        exact rfl
        exact rfl
        apply g_binOp
        exact a_add64 rfl rfl (by omega)
        apply r_op
        exact rfl
        exact rfl
        apply a_move
        (conv => (lhs; whnf))
        apply r_op
        exact rfl
        exact rfl
        apply g_call
        exact a_len_slc rfl
        apply r_op
        exact rfl
        exact rfl
        apply g_binOp
        exact a_binI rfl rfl rfl
        apply r_op
        exact rfl
        exact rfl
        apply a_move
        (conv => (lhs; whnf))
        apply r_op
        exact rfl
        exact want_t rfl rfl rfl (by assumption)
        apply a_move
        (conv => (lhs; whnf))
        apply r_op
        exact rfl
        exact want_t rfl rfl rfl (by assumption)
        apply g_binOp
        exact a_binI rfl rfl rfl
        apply r_op
        exact rfl
        exact rfl
        apply g_pick
        apply a_pickT rfl (by assumption)
        (conv => (lhs; whnf))
        with_reducible refine runs_done ?_
        refine W.condF rfl (by assumption) ?_
        refine W.exit ?_
        exact ⟨x, ta, tq, hgr, hs, by exact Has.by (by repeat (first | exact trivial | refine ⟨by first | trivial | exact Weak.refl _ | exact Weak.tok _ _ _ | exact Weak.of_eq (congrArg (AV.int _) (by omega)) | exact Weak.nils _ _ (.inr rfl), ?_⟩))⟩
      have h66 := Decidable.of_not_not h66
      have d2 : decide ((i : Int) < 66) = true := decide_eq_true (by omega)
      obtain ⟨q0, gi0⟩ : ∃ q : UInt8, c[((i : Int)).toNat]? = some q := ⟨c[i]'(by omega), by simp⟩
      obtain ⟨q1, gi1⟩ : ∃ q : UInt8, c[((i : Int) + 1).toNat]? = some q := ⟨c[i + 1]'(by omega), by rw [show ((i : Int) + 1).toNat = i + 1 by omega]; simp⟩
      obtain ⟨q2, gi2⟩ : ∃ q : UInt8, c[((i : Int) + 2).toNat]? = some q := ⟨c[i + 2]'(by omega), by rw [show ((i : Int) + 2).toNat = i + 2 by omega]; simp⟩
      obtain ⟨q3, gi3⟩ : ∃ q : UInt8, c[((i : Int) + 3).toNat]? = some q := ⟨c[i + 3]'(by omega), by rw [show ((i : Int) + 3).toNat = i + 3 by omega]; simp⟩
      have l0 := q0.toNat_lt
      have l1 := q1.toNat_lt
      have l2 := q2.toNat_lt
      have l3 := q3.toNat_lt
      have w0' : IntKind.i64.wrap ((q0.toNat : Int) % 3) = (q0.toNat : Int) % 3 := IntWalk.i64_in _ (by omega)
      have w1 : IntKind.i64.wrap (q1.toNat : Int) = (q1.toNat : Int) := IntWalk.i64_in _ (by omega)
      have w2 : IntKind.i64.wrap (q2.toNat : Int) = (q2.toNat : Int) := IntWalk.i64_in _ (by omega)
      have w3 : IntKind.i64.wrap (q3.toNat : Int) = (q3.toNat : Int) := IntWalk.i64_in _ (by omega)
      have hmost := hgr.most
      have hlease := hgr.lease
      have hml := Int.emod_nonneg (IntKind.i64.wrap (q1.toNat : Int)) (show x.lease ≠ 0 by omega)
      have hml2 := Int.emod_lt_of_pos (IntKind.i64.wrap (q1.toNat : Int)) (show 0 < x.lease by omega)
      have hmm := Int.emod_nonneg (IntKind.i64.wrap (q3.toNat : Int)) (show x.most ≠ 0 by omega)
      have hmm2 := Int.emod_lt_of_pos (IntKind.i64.wrap (q3.toNat : Int)) (show 0 < x.most by omega)
      have ht60 : CallP Tryd.prog w0 82 [.int .i64 (IntKind.i64.wrap (q1.toNat : Int)), .int .i64 60] (.str (textL q1.toNat 60)) := by
        rw [w1]; exact lawtext_any w0 q1.toNat 60 (by omega) (by omega)
      have hl60 := textL_len q1.toNat 60
      obtain ⟨at_, hat, hatl⟩ : ∃ v : List UInt8, [AV.str [], .str [97, 61, 49], .str [98, 61, 50]][((q2.toNat : Int) % 3).toNat]? = some (.str v) ∧ (v = [] ∨ v = [97, 61, 49] ∨ v = [98, 61, 50]) := by
        have h : q2.toNat % 3 < 3 := Nat.mod_lt _ (by decide)
        rw [show ((q2.toNat : Int) % 3).toNat = q2.toNat % 3 by omega]
        generalize q2.toNat % 3 = q at h
        match q, h with
        | 0, _ => exact ⟨_, rfl, .inl rfl⟩
        | 1, _ => exact ⟨_, rfl, .inr (.inl rfl)⟩
        | 2, _ => exact ⟨_, rfl, .inr (.inr rfl)⟩
      obtain ⟨wy, hwy, hwyl⟩ : ∃ v : List UInt8, [AV.str [110, 97, 99, 107], .str [116, 105, 109, 101]][((q1.toNat : Int) % 2).toNat]? = some (.str v) ∧ (v = [110, 97, 99, 107] ∨ v = [116, 105, 109, 101]) := by
        have h : q1.toNat % 2 < 2 := Nat.mod_lt _ (by decide)
        rw [show ((q1.toNat : Int) % 2).toNat = q1.toNat % 2 by omega]
        generalize q1.toNat % 2 = q at h
        match q, h with
        | 0, _ => exact ⟨_, rfl, .inl rfl⟩
        | 1, _ => exact ⟨_, rfl, .inr rfl⟩
      have hnq := hgr.nqueue
      have hna := hgr.nacks
      refine W.seq ?_
      refine W.seq ?_
      refine W.regionL (by decide +kernel) rfl ?_
      apply r_op
      exact rfl
      exact rfl
      apply a_move
      (conv => (lhs; whnf))
      apply r_op
      exact rfl
      exact rfl
      apply g_binOp
      exact a_add64 rfl rfl (by omega)
      apply r_op
      exact rfl
      exact rfl
      apply a_move
      (conv => (lhs; whnf))
      apply r_op
      exact rfl
      exact rfl
      apply g_call
      exact a_len_slc rfl
      apply r_op
      exact rfl
      exact rfl
      apply g_binOp
      exact a_binI rfl rfl rfl
      apply r_op
      exact rfl
      exact rfl
      apply a_move
      (conv => (lhs; whnf))
      apply r_op
      exact rfl
      exact want_t rfl rfl rfl (by assumption)
      apply a_move
      (conv => (lhs; whnf))
      apply r_op
      exact rfl
      exact want_t rfl rfl rfl (by assumption)
      apply g_binOp
      exact a_binI rfl rfl rfl
      apply r_op
      exact rfl
      exact rfl
      apply g_pick
      apply a_pickT rfl (by assumption)
      (conv => (lhs; whnf))
      with_reducible refine runs_done ?_
      refine W.condT rfl (by assumption) ?_
      refine W.skip ?_
      show W _ _ _ _ _ _ _
      refine W.seq ?_
      refine W.block ?_
      refine W.seq ?_
      refine W.regionL (by decide +kernel) rfl ?_
      apply r_op
      exact rfl
      exact rfl
      apply a_move
      (conv => (lhs; whnf))
      apply r_op
      exact rfl
      exact rfl
      apply a_move
      (conv => (lhs; whnf))
      apply r_op
      exact rfl
      exact rfl
      apply a_move
      (conv => (lhs; whnf))
      apply r_op
      exact rfl
      exact rfl
      apply g_indexAddr
      exact a_indexAddr rfl rfl (by decide) (by omega) (by exact get_bytes (by assumption))
      apply r_op
      exact rfl
      exact rfl
      apply g_load
      exact a_load1 rfl rfl
      apply r_op
      exact rfl
      exact rfl
      apply g_binOp
      exact a_rem rfl rfl (by omega)
      apply r_op
      exact rfl
      exact rfl
      apply g_convert
      exact a_convI rfl
      apply r_op
      exact rfl
      exact rfl
      apply g_binOp
      exact a_add64 rfl rfl (by omega)
      apply r_op
      exact rfl
      exact rfl
      apply g_binOp
      exact a_add64 rfl rfl (by omega)
      apply r_op
      exact rfl
      exact rfl
      apply a_assign
      (conv => (lhs; whnf))
      with_reducible refine runs_done ?_
      refine W.seq ?_
      refine W.seq ?_
      refine W.regionL (by decide +kernel) rfl ?_
      apply r_op
      exact rfl
      exact rfl
      apply a_move
      (conv => (lhs; whnf))
      apply r_op
      exact rfl
      exact rfl
      apply a_move
      (conv => (lhs; whnf))
      apply r_op
      exact rfl
      exact rfl
      apply g_binOp
      exact a_binI rfl rfl rfl
      with_reducible refine runs_done ?_
      refine W.cond rfl (fun hc => ?_) (fun hc => ?_)
      · refine W.exit ?_
        exact ⟨x, ta, tq, hgr, hs, by exact Has.by (by repeat (first | exact trivial | refine ⟨by first | trivial | exact Weak.refl _ | exact Weak.tok _ _ _ | exact Weak.of_eq (congrArg (AV.int _) (by omega)) | exact Weak.nils _ _ (.inr rfl), ?_⟩))⟩
      have hsq : seq + (1 + IntKind.i64.wrap ((q0.toNat : Int) % 3)) < next := by have := of_decide_eq_false hc; omega
      have hsq0 : 0 ≤ seq + (1 + IntKind.i64.wrap ((q0.toNat : Int) % 3)) := by omega
      have hsq1 : seq < seq + (1 + IntKind.i64.wrap ((q0.toNat : Int) % 3)) := by omega
      generalize seq + (1 + IntKind.i64.wrap ((q0.toNat : Int) % 3)) = seq1 at hsq hsq0 hsq1 ⊢
      clear hc
      refine W.skip ?_
      show W _ _ _ _ _ _ _
      refine W.seq ?_
      refine W.meet (fun E s' => s' = s ∧ Has [(0, .slc 1 (aBytes c) t), (2, .int .i64 clock), (3, .int .i64 next), (8, .ptr b8 0), (9, .ptr bx 0), (10, .int .i64 seq1), (11, .int .i64 i)] E) ?_ ?_
      · have hm0 := Moves.refl hs.ma.room
        refine W.seq ?_
        refine W.regionL (by decide +kernel) rfl ?_
        apply r_op
        exact rfl
        exact rfl
        apply a_move
        (conv => (lhs; whnf))
        apply r_op
        exact rfl
        exact rfl
        apply a_move
        (conv => (lhs; whnf))
        apply r_op
        exact rfl
        exact rfl
        apply g_indexAddr
        exact a_indexAddr rfl rfl (by decide) (by omega) (by exact get_bytes (by assumption))
        apply r_op
        exact rfl
        exact rfl
        apply g_load
        exact a_load1 rfl rfl
        apply r_op
        exact rfl
        exact rfl
        apply g_binOp
        exact a_binI rfl rfl rfl
        apply r_op
        exact rfl
        exact rfl
        apply a_move
        (conv => (lhs; whnf))
        refine q_split rfl rfl rfl (fun hg => ?_) (fun hg => ?_)
        apply r_op
        exact rfl
        exact want_t rfl rfl rfl (by assumption)
        apply g_fieldAddr
        exact a_fieldAddrP rfl (by decide)
        apply r_load
        exact rfl
        exact rfl
        exact rfl
        decide
        exact want_t rfl rfl rfl (by assumption)
        assumption
        exact aLoad1 rfl
        apply r_op
        exact rfl
        exact want_t rfl rfl rfl (by assumption)
        apply g_call
        exact a_len_slc rfl
        apply r_op
        exact rfl
        exact want_t rfl rfl rfl (by assumption)
        apply g_binOp
        exact a_binI rfl rfl rfl
        apply r_op
        exact rfl
        exact rfl
        apply g_pick
        apply a_pickT rfl (by assumption)
        (conv => (lhs; whnf))
        with_reducible refine runs_done ?_
        refine W.cond rfl (fun hc => ?_) (fun hc => ?_)
        refine W.seq ?_
        refine W.regionL (by decide +kernel) rfl ?_
        apply r_op
        exact rfl
        exact rfl
        apply g_fieldAddr
        exact a_fieldAddrP rfl (by decide)
        apply r_load
        exact rfl
        exact rfl
        exact rfl
        decide
        exact rfl
        assumption
        exact aLoad1 rfl
        apply r_op
        exact rfl
        exact rfl
        apply a_move
        (conv => (lhs; whnf))
        apply r_op
        exact rfl
        exact rfl
        apply g_buildSlice
        apply a_build1
        (conv => (lhs; whnf))
        exact rfl
        exact rfl
        decide
        apply r_append'
        exact rfl
        exact rfl
        decide
        infer_instance
        exact rfl
        exact rfl
        exact rfl
        exact rfl
        exact rfl
        assumption
        simp only [length_aBytes, List.length_append, List.length_cons, List.length_nil, List.length_map, List.length_range]
        omega
        intro tk1 σ1 hm
        apply r_op
        exact rfl
        exact rfl
        apply g_fieldAddr
        exact a_fieldAddrP rfl (by decide)
        apply r_store
        exact rfl
        exact rfl
        exact rfl
        decide
        infer_instance
        exact rfl
        apply hb_moves (by assumption)
        assumption
        (conv => (lhs; whnf))
        exact rfl
        (conv => (lhs; whnf))
        exact rfl
        exact of_decide_eq_true rfl
        exact rfl
        with_reducible refine runs_done ?_
        refine W.exit ?_
        show W _ _ _ _ _ _ _
        refine W.regionL (by decide +kernel) rfl ?_
        apply r_op
        exact rfl
        exact rfl
        apply a_move
        (conv => (lhs; whnf))
        apply r_op
        exact rfl
        exact rfl
        apply g_binOp
        exact a_add64 rfl rfl (by omega)
        apply r_op
        exact rfl
        exact rfl
        apply a_assign
        (conv => (lhs; whnf))
        with_reducible refine runs_done ?_
        rotate_left
        refine W.skip ?_
        rotate_left
        apply q_skip
        exact rfl
        exact want_f rfl rfl rfl (by assumption)
        apply q_skip
        exact rfl
        exact want_f rfl rfl rfl (by assumption)
        apply q_skip
        exact rfl
        exact want_f rfl rfl rfl (by assumption)
        apply q_skip
        exact rfl
        exact want_f rfl rfl rfl (by assumption)
        apply r_op
        exact rfl
        exact rfl
        apply g_pick
        apply a_pickF rfl (by assumption)
        (conv => (lhs; whnf))
        with_reducible refine runs_done ?_
        refine W.condF rfl (by exact rfl) ?_
        refine W.skip ?_
        rotate_left
        · have hq20 : x.acks.length < 20 := by have := of_decide_eq_true hc; simp at this; omega
          have h9 := hs.acks (x' := { x with acks := x.acks ++ [seq1] }) hne hbx hm
          simp only [subC, List.map_append, List.map_cons, List.map_nil] at h9
          obtain ⟨k1, k2⟩ := hgr.ack hup hsq1 hsq hq20
          exact ⟨100 - (i + 4), by omega, i + 4, seq1, { x with acks := x.acks ++ [seq1] }, tk1, tq, rfl, by omega, by omega, hsq0, hsq, k1, k2, h9, by exact Has.by (by repeat (first | exact trivial | refine ⟨by first | trivial | exact Weak.refl _ | exact Weak.tok _ _ _ | exact Weak.of_eq (congrArg (AV.int _) (by omega)) | exact Weak.nils _ _ (.inr rfl), ?_⟩))⟩
        · exact ⟨rfl, by exact Has.by (by repeat (first | exact trivial | refine ⟨by first | trivial | exact Weak.refl _ | exact Weak.tok _ _ _ | exact Weak.of_eq (congrArg (AV.int _) (by omega)) | exact Weak.nils _ _ (.inr rfl), ?_⟩))⟩
        · exact ⟨rfl, by exact Has.by (by repeat (first | exact trivial | refine ⟨by first | trivial | exact Weak.refl _ | exact Weak.tok _ _ _ | exact Weak.of_eq (congrArg (AV.int _) (by omega)) | exact Weak.nils _ _ (.inr rfl), ?_⟩))⟩
      · rintro E s' ⟨rfl, hE⟩
        refine W.has hE ?_
        clear hE
        refine W.seq ?_
        refine W.seq ?_
        refine W.regionL (by decide +kernel) rfl ?_
        apply r_op
        exact rfl
        exact rfl
        apply g_fieldAddr
        exact a_fieldAddrP rfl (by decide)
        apply r_load
        exact rfl
        exact rfl
        exact rfl
        decide
        exact rfl
        assumption
        exact aLoad1 rfl
        apply r_op
        exact rfl
        exact rfl
        apply g_call
        exact a_len_slc rfl
        apply r_op
        exact rfl
        exact rfl
        apply g_binOp
        exact a_binI rfl rfl rfl
        with_reducible refine runs_done ?_
        refine W.cond rfl (fun hc => ?_) (fun hc => ?_)
        · refine W.exit ?_
          exact ⟨x, ta, tq, hgr, hs, by exact Has.by (by repeat (first | exact trivial | refine ⟨by first | trivial | exact Weak.refl _ | exact Weak.tok _ _ _ | exact Weak.of_eq (congrArg (AV.int _) (by omega)) | exact Weak.nils _ _ (.inr rfl), ?_⟩))⟩
        have hq30 : x.queue.length < 30 := by have := of_decide_eq_false hc; simp at this; omega
        clear hc
        refine W.skip ?_
        show W _ _ _ _ _ _ _
        refine W.seq ?_
        refine W.regionDK 0 [] Ty.mixed (by decide +kernel) (by decide +kernel) rfl ?_
        apply r_op
        exact rfl
        exact rfl
        apply a_move
        (conv => (lhs; whnf))
        apply r_op
        exact rfl
        exact rfl
        apply a_move
        (conv => (lhs; whnf))
        apply r_op
        exact rfl
        exact rfl
        apply a_move
        (conv => (lhs; whnf))
        apply r_op
        exact rfl
        exact rfl
        apply g_binOp
        exact a_add64 rfl rfl (by omega)
        apply r_op
        exact rfl
        exact rfl
        apply g_indexAddr
        exact a_indexAddr rfl rfl (by decide) (by omega) (by exact get_bytes (by assumption))
        apply r_op
        exact rfl
        exact rfl
        apply g_load
        exact a_load1 rfl rfl
        apply r_op
        exact rfl
        exact rfl
        apply g_convert
        exact a_convI rfl
        apply r_callP
        exact rfl
        exact rfl
        exact rfl
        exact rfl
        exact rfl
        infer_instance
        exact ht60
        apply r_op
        exact rfl
        exact rfl
        apply g_buildSlice
        apply a_buildN
        apply EvP.cons (by (conv => (lhs; whnf)))
        apply EvP.cons (by (conv => (lhs; whnf)))
        apply EvP.cons (by (conv => (lhs; whnf)))
        exact EvP.nil
        (conv => (lhs; whnf))
        exact rfl
        exact rfl
        decide
        apply r_op
        exact rfl
        exact rfl
        apply a_move
        (conv => (lhs; whnf))
        apply r_op
        exact rfl
        exact rfl
        apply a_move
        (conv => (lhs; whnf))
        apply r_op
        exact rfl
        exact rfl
        apply g_binOp
        exact a_add64 rfl rfl (by omega)
        apply r_op
        exact rfl
        exact rfl
        apply g_indexAddr
        exact a_indexAddr rfl rfl (by decide) (by omega) (by exact get_bytes (by assumption))
        apply r_op
        exact rfl
        exact rfl
        apply g_load
        exact a_load1 rfl rfl
        apply r_op
        exact rfl
        exact rfl
        apply g_binOp
        exact a_rem rfl rfl (by omega)
        apply r_op
        exact rfl
        exact rfl
        apply g_indexAddr
        exact a_indexAddr rfl rfl (by decide) (by omega) (by assumption)
        apply r_op
        exact rfl
        exact rfl
        apply g_load
        exact a_load1 rfl rfl
        apply r_op
        exact rfl
        exact rfl
        apply g_build
        apply a_build
        apply EvP.cons (by (conv => (lhs; whnf)))
        apply EvP.cons (by (conv => (lhs; whnf)))
        apply EvP.cons (by (conv => (lhs; whnf)))
        exact EvP.nil
        simp only [aFill, List.getElem?_cons_zero, List.getElem?_cons_succ, AV.cells, List.length_cons, List.length_nil, AV.flat, AV.one, setL, List.set_cons_zero, List.set_cons_succ, Nat.reduceAdd, Nat.reduceLeDiff, Nat.reduceMul, and_self, if_true, ↓reduceIte, Nat.zero_add, Nat.le_refl, List.range, List.range.loop, List.map_cons, List.map_nil, Nat.zero_le]
        rfl
        apply r_alloc
        exact rfl
        exact rfl
        decide
        exact rfl
        (conv => (lhs; whnf))
        intro b1 hb1
        apply r_store
        exact rfl
        exact rfl
        exact rfl
        decide
        infer_instance
        exact rfl
        exact setBox_same
        (conv => (lhs; whnf))
        exact rfl
        (conv => (lhs; whnf))
        exact rfl
        exact of_decide_eq_true rfl
        exact setL_whole rfl
        refine runs_done ?_
        show W _ _ _ _ _ _ _
        generalize b1 = b12 at hb1 ⊢
        have hb12 : s'.box b12 = none := hb1
        clear hb1
        have hσ12 := none_moves hs.ma hb12
        have h812 : b8 ≠ b12 := (ne_some hs.r hb12).symm
        have hx12 : bx ≠ b12 := (ne_some hs.b hb12).symm
        have h12x : b12 ≠ bx := hx12.symm
        refine W.seq ?_
        refine W.meet (fun E s => ∃ m : Msg, (m.seq = seq1 ∧ m.body.length ≤ 60 ∧ (m.attr = [] ∨ m.attr = [97, 61, 49] ∨ m.attr = [98, 61, 50]) ∧ (0 ≤ m.prio ∧ m.prio ≤ 9) ∧ m.tries = 0 ∧ m.until_ = 0 ∧ m.dead = false ∧ m.why = []) ∧ s = s'.setBox b12 (msgC m) ∧ Has [(0, .slc 1 (aBytes c) t), (2, .int .i64 clock), (3, .int .i64 next), (8, .ptr b8 0), (9, .ptr bx 0), (10, .int .i64 seq1), (11, .int .i64 i), (12, .ptr b12 0)] E) ?_ ?_
        · refine W.seq ?_
          refine W.regionL (by decide +kernel) rfl ?_
          apply r_op
          exact rfl
          exact rfl
          apply a_move
          (conv => (lhs; whnf))
          apply r_op
          exact rfl
          exact rfl
          apply a_move
          (conv => (lhs; whnf))
          apply r_op
          exact rfl
          exact rfl
          apply g_binOp
          exact a_add64 rfl rfl (by omega)
          apply r_op
          exact rfl
          exact rfl
          apply g_indexAddr
          exact a_indexAddr rfl rfl (by decide) (by omega) (by exact get_bytes (by assumption))
          apply r_op
          exact rfl
          exact rfl
          apply g_load
          exact a_load1 rfl rfl
          apply r_op
          exact rfl
          exact rfl
          apply g_binOp
          exact a_binI rfl rfl rfl
          with_reducible refine runs_done ?_
          refine W.cond rfl (fun hc => ?_) (fun hc => ?_)
          refine W.regionL (by decide +kernel) rfl ?_
          apply r_op
          exact rfl
          exact rfl
          apply a_move
          (conv => (lhs; whnf))
          apply r_op
          exact rfl
          exact rfl
          apply a_move
          (conv => (lhs; whnf))
          apply r_op
          exact rfl
          exact rfl
          apply g_binOp
          exact a_add64 rfl rfl (by omega)
          apply r_op
          exact rfl
          exact rfl
          apply g_indexAddr
          exact a_indexAddr rfl rfl (by decide) (by omega) (by exact get_bytes (by assumption))
          apply r_op
          exact rfl
          exact rfl
          apply g_load
          exact a_load1 rfl rfl
          apply r_op
          exact rfl
          exact rfl
          apply g_convert
          exact a_convI rfl
          apply r_op
          exact rfl
          exact rfl
          apply g_binOp
          exact a_rem rfl rfl (by omega)
          apply r_op
          exact rfl
          exact rfl
          apply g_fieldAddr
          exact a_fieldAddrP rfl (by decide)
          apply r_store
          exact rfl
          exact rfl
          exact rfl
          decide
          infer_instance
          exact rfl
          exact setBox_same
          (conv => (lhs; whnf))
          exact rfl
          (conv => (lhs; whnf))
          exact rfl
          exact of_decide_eq_true rfl
          exact rfl
          with_reducible refine runs_done ?_
          rotate_left
          refine W.skip ?_
          rotate_left
          · exact ⟨⟨seq1, textL q1.toNat 60, at_, 0, 0, false, [], IntKind.i64.wrap (q2.toNat : Int) % 10⟩, ⟨rfl, hl60, hatl, by constructor <;> (show _ ≤ _; dsimp only; omega), rfl, rfl, rfl, rfl⟩, by simp only [setBox_setBox]; rfl, by exact Has.by (by repeat (first | exact trivial | refine ⟨by first | trivial | exact Weak.refl _ | exact Weak.tok _ _ _ | exact Weak.of_eq (congrArg (AV.int _) (by omega)) | exact Weak.nils _ _ (.inr rfl), ?_⟩))⟩
          · exact ⟨⟨seq1, textL q1.toNat 60, at_, 0, 0, false, [], 0⟩, ⟨rfl, hl60, hatl, (show (0 : Int) ≤ 0 ∧ (0 : Int) ≤ 9 from ⟨by decide, by decide⟩), rfl, rfl, rfl, rfl⟩, by simp only [setBox_setBox]; rfl, by exact Has.by (by repeat (first | exact trivial | refine ⟨by first | trivial | exact Weak.refl _ | exact Weak.tok _ _ _ | exact Weak.of_eq (congrArg (AV.int _) (by omega)) | exact Weak.nils _ _ (.inr rfl), ?_⟩))⟩
        · rintro E s2 ⟨m, ⟨ms, mb, ma, mp, mt, mu, md, mw⟩, rfl, hE⟩
          refine W.has hE ?_
          clear hE
          refine W.seq ?_
          refine W.meet (fun E s => ∃ m : Msg, (m.seq = seq1 ∧ MsgOk clock x.most x.lease m) ∧ s = s'.setBox b12 (msgC m) ∧ Has [(0, .slc 1 (aBytes c) t), (2, .int .i64 clock), (3, .int .i64 next), (8, .ptr b8 0), (9, .ptr bx 0), (10, .int .i64 seq1), (11, .int .i64 i), (12, .ptr b12 0)] E) ?_ ?_
          · refine W.seq ?_
            refine W.regionL (by decide +kernel) rfl ?_
            apply r_op
            exact rfl
            exact rfl
            apply a_move
            (conv => (lhs; whnf))
            apply r_op
            exact rfl
            exact rfl
            apply a_move
            (conv => (lhs; whnf))
            apply r_op
            exact rfl
            exact rfl
            apply g_binOp
            exact a_add64 rfl rfl (by omega)
            apply r_op
            exact rfl
            exact rfl
            apply g_indexAddr
            exact a_indexAddr rfl rfl (by decide) (by omega) (by exact get_bytes (by assumption))
            apply r_op
            exact rfl
            exact rfl
            apply g_load
            exact a_load1 rfl rfl
            apply r_op
            exact rfl
            exact rfl
            apply g_binOp
            exact a_rem rfl rfl (by omega)
            with_reducible refine runs_done ?_
            refine W.block ?_
            refine W.seq ?_
            refine W.regionL (by decide +kernel) rfl ?_
            apply r_op
            exact rfl
            exact rfl
            apply g_binOp
            exact a_binI rfl rfl rfl
            apply r_op
            exact rfl
            exact rfl
            apply a_assign
            (conv => (lhs; whnf))
            with_reducible refine runs_done ?_
            refine W.cond rfl (fun hc => ?_) (fun hc => ?_)
            refine W.regionDK 1 [] Ty.mixed (by decide +kernel) (by decide +kernel) rfl ?_
            apply r_op
            exact rfl
            exact rfl
            apply a_move
            (conv => (lhs; whnf))
            apply r_op
            exact rfl
            exact rfl
            apply a_move
            (conv => (lhs; whnf))
            apply r_op
            exact rfl
            exact rfl
            apply g_binOp
            exact a_add64 rfl rfl (by omega)
            apply r_op
            exact rfl
            exact rfl
            apply g_indexAddr
            exact a_indexAddr rfl rfl (by decide) (by omega) (by exact get_bytes (by assumption))
            apply r_op
            exact rfl
            exact rfl
            apply g_load
            exact a_load1 rfl rfl
            apply r_op
            exact rfl
            exact rfl
            apply g_convert
            exact a_convI rfl
            apply r_op
            exact rfl
            exact rfl
            apply g_fieldAddr
            exact a_fieldAddrP rfl (by decide)
            apply r_load
            exact rfl
            exact rfl
            exact rfl
            decide
            exact rfl
            apply hb_ne (by assumption)
            assumption
            exact aLoad1 rfl
            apply r_op
            exact rfl
            exact rfl
            apply g_binOp
            exact a_rem rfl rfl (by omega)
            apply r_op
            exact rfl
            exact rfl
            apply g_fieldAddr
            exact a_fieldAddrP rfl (by decide)
            apply r_store
            exact rfl
            exact rfl
            exact rfl
            decide
            infer_instance
            exact rfl
            exact setBox_same
            (conv => (lhs; whnf))
            exact rfl
            (conv => (lhs; whnf))
            exact rfl
            exact of_decide_eq_true rfl
            exact rfl
            with_reducible refine runs_done ?_
            rotate_left
            refine W.seq ?_
            refine W.regionL (by decide +kernel) rfl ?_
            apply r_op
            exact rfl
            exact rfl
            apply g_binOp
            exact a_binI rfl rfl rfl
            apply r_op
            exact rfl
            exact rfl
            apply a_assign
            (conv => (lhs; whnf))
            with_reducible refine runs_done ?_
            refine W.cond rfl (fun hc => ?_) (fun hc => ?_)
            refine W.seq ?_
            refine W.regionDK 1 [] Ty.mixed (by decide +kernel) (by decide +kernel) rfl ?_
            apply r_op
            exact rfl
            exact rfl
            apply a_move
            (conv => (lhs; whnf))
            apply r_op
            exact rfl
            exact rfl
            apply a_move
            (conv => (lhs; whnf))
            apply r_op
            exact rfl
            exact rfl
            apply g_binOp
            exact a_add64 rfl rfl (by omega)
            apply r_op
            exact rfl
            exact rfl
            apply g_indexAddr
            exact a_indexAddr rfl rfl (by decide) (by omega) (by exact get_bytes (by assumption))
            apply r_op
            exact rfl
            exact rfl
            apply g_load
            exact a_load1 rfl rfl
            apply r_op
            exact rfl
            exact rfl
            apply g_convert
            exact a_convI rfl
            apply r_op
            exact rfl
            exact rfl
            apply g_fieldAddr
            exact a_fieldAddrP rfl (by decide)
            apply r_load
            exact rfl
            exact rfl
            exact rfl
            decide
            exact rfl
            apply hb_ne (by assumption)
            assumption
            exact aLoad1 rfl
            apply r_op
            exact rfl
            exact rfl
            apply g_binOp
            exact a_rem rfl rfl (by omega)
            apply r_op
            exact rfl
            exact rfl
            apply g_binOp
            exact a_add64 rfl rfl (by omega)
            apply r_op
            exact rfl
            exact rfl
            apply g_fieldAddr
            exact a_fieldAddrP rfl (by decide)
            apply r_store
            exact rfl
            exact rfl
            exact rfl
            decide
            infer_instance
            exact rfl
            exact setBox_same
            (conv => (lhs; whnf))
            exact rfl
            (conv => (lhs; whnf))
            exact rfl
            exact of_decide_eq_true rfl
            exact rfl
            with_reducible refine runs_done ?_
            refine W.regionDK 1 [] Ty.mixed (by decide +kernel) (by decide +kernel) rfl ?_
            apply r_op
            exact rfl
            exact rfl
            apply a_move
            (conv => (lhs; whnf))
            apply r_op
            exact rfl
            exact rfl
            apply g_binOp
            exact a_add64 rfl rfl (by omega)
            apply r_op
            exact rfl
            exact rfl
            apply a_move
            (conv => (lhs; whnf))
            apply r_op
            exact rfl
            exact rfl
            apply a_move
            (conv => (lhs; whnf))
            apply r_op
            exact rfl
            exact rfl
            apply g_binOp
            exact a_add64 rfl rfl (by omega)
            apply r_op
            exact rfl
            exact rfl
            apply g_indexAddr
            exact a_indexAddr rfl rfl (by decide) (by omega) (by exact get_bytes (by assumption))
            apply r_op
            exact rfl
            exact rfl
            apply g_load
            exact a_load1 rfl rfl
            apply r_op
            exact rfl
            exact rfl
            apply g_convert
            exact a_convI rfl
            apply r_op
            exact rfl
            exact rfl
            apply g_fieldAddr
            exact a_fieldAddrP rfl (by decide)
            apply r_load
            exact rfl
            exact rfl
            exact rfl
            decide
            exact rfl
            apply hb_ne (by assumption)
            apply hb_ne (by assumption)
            assumption
            exact aLoad1 rfl
            apply r_op
            exact rfl
            exact rfl
            apply g_binOp
            exact a_rem rfl rfl (by omega)
            apply r_op
            exact rfl
            exact rfl
            apply g_binOp
            exact a_add64 rfl rfl (by omega)
            apply r_op
            exact rfl
            exact rfl
            apply g_fieldAddr
            exact a_fieldAddrP rfl (by decide)
            apply r_store
            exact rfl
            exact rfl
            exact rfl
            decide
            infer_instance
            exact rfl
            exact setBox_same
            (conv => (lhs; whnf))
            exact rfl
            (conv => (lhs; whnf))
            exact rfl
            exact of_decide_eq_true rfl
            exact rfl
            with_reducible refine runs_done ?_
            rotate_left
            refine W.seq ?_
            refine W.regionL (by decide +kernel) rfl ?_
            apply r_op
            exact rfl
            exact rfl
            apply g_binOp
            exact a_binI rfl rfl rfl
            apply r_op
            exact rfl
            exact rfl
            apply a_assign
            (conv => (lhs; whnf))
            with_reducible refine runs_done ?_
            refine W.cond rfl (fun hc => ?_) (fun hc => ?_)
            refine W.seq ?_
            refine W.regionL (by decide +kernel) rfl ?_
            apply r_op
            exact rfl
            exact rfl
            apply g_fieldAddr
            exact a_fieldAddrP rfl (by decide)
            apply r_store
            exact rfl
            exact rfl
            exact rfl
            decide
            infer_instance
            exact rfl
            exact setBox_same
            (conv => (lhs; whnf))
            exact rfl
            (conv => (lhs; whnf))
            exact rfl
            exact of_decide_eq_true rfl
            exact rfl
            with_reducible refine runs_done ?_
            refine W.seq ?_
            refine W.regionL (by decide +kernel) rfl ?_
            apply r_op
            exact rfl
            exact rfl
            apply g_fieldAddr
            exact a_fieldAddrP rfl (by decide)
            apply r_load
            exact rfl
            exact rfl
            exact rfl
            decide
            exact rfl
            apply hb_ne (by assumption)
            apply hb_ne (by assumption)
            assumption
            exact aLoad1 rfl
            apply r_op
            exact rfl
            exact rfl
            apply g_fieldAddr
            exact a_fieldAddrP rfl (by decide)
            apply r_store
            exact rfl
            exact rfl
            exact rfl
            decide
            infer_instance
            exact rfl
            exact setBox_same
            (conv => (lhs; whnf))
            exact rfl
            (conv => (lhs; whnf))
            exact rfl
            exact of_decide_eq_true rfl
            exact rfl
            with_reducible refine runs_done ?_
            refine W.regionL (by decide +kernel) rfl ?_
            apply r_op
            exact rfl
            exact rfl
            apply g_buildSlice
            apply a_buildN
            apply EvP.cons (by (conv => (lhs; whnf)))
            apply EvP.cons (by (conv => (lhs; whnf)))
            exact EvP.nil
            (conv => (lhs; whnf))
            exact rfl
            exact rfl
            decide
            apply r_op
            exact rfl
            exact rfl
            apply a_move
            (conv => (lhs; whnf))
            apply r_op
            exact rfl
            exact rfl
            apply a_move
            (conv => (lhs; whnf))
            apply r_op
            exact rfl
            exact rfl
            apply g_binOp
            exact a_add64 rfl rfl (by omega)
            apply r_op
            exact rfl
            exact rfl
            apply g_indexAddr
            exact a_indexAddr rfl rfl (by decide) (by omega) (by exact get_bytes (by assumption))
            apply r_op
            exact rfl
            exact rfl
            apply g_load
            exact a_load1 rfl rfl
            apply r_op
            exact rfl
            exact rfl
            apply g_binOp
            exact a_rem rfl rfl (by omega)
            apply r_op
            exact rfl
            exact rfl
            apply g_indexAddr
            exact a_indexAddr rfl rfl (by decide) (by omega) (by assumption)
            apply r_op
            exact rfl
            exact rfl
            apply g_load
            exact a_load1 rfl rfl
            apply r_op
            exact rfl
            exact rfl
            apply g_fieldAddr
            exact a_fieldAddrP rfl (by decide)
            apply r_store
            exact rfl
            exact rfl
            exact rfl
            decide
            infer_instance
            exact rfl
            exact setBox_same
            (conv => (lhs; whnf))
            exact rfl
            (conv => (lhs; whnf))
            exact rfl
            exact of_decide_eq_true rfl
            exact rfl
            with_reducible refine runs_done ?_
            rotate_left
            refine W.skip ?_
            rotate_left
            · exact ⟨{ m with tries := IntKind.i64.wrap (q3.toNat : Int) % x.most }, ⟨ms, mb, ma, mp, .inl ⟨md, mw, mu, hmm, hmm2⟩⟩, by simp only [setBox_setBox]; rfl, by exact Has.by (by repeat (first | exact trivial | refine ⟨by first | trivial | exact Weak.refl _ | exact Weak.tok _ _ _ | exact Weak.of_eq (congrArg (AV.int _) (by omega)) | exact Weak.nils _ _ (.inr rfl), ?_⟩))⟩
            · exact ⟨{ m with tries := 1 + IntKind.i64.wrap (q3.toNat : Int) % x.most, until_ := (clock : Int) + 1 + IntKind.i64.wrap (q1.toNat : Int) % x.lease }, ⟨ms, mb, ma, mp, .inr (.inl ⟨md, mw, by constructor <;> (dsimp only; omega), by constructor <;> (dsimp only; omega)⟩)⟩, by simp only [setBox_setBox]; rfl, by exact Has.by (by repeat (first | exact trivial | refine ⟨by first | trivial | exact Weak.refl _ | exact Weak.tok _ _ _ | exact Weak.of_eq (congrArg (AV.int _) (by omega)) | exact Weak.nils _ _ (.inr rfl), ?_⟩))⟩
            · exact ⟨{ m with dead := true, tries := x.most, why := wy }, ⟨ms, mb, ma, mp, .inr (.inr ⟨rfl, mu, rfl, hwyl⟩)⟩, by simp only [setBox_setBox]; rfl, by exact Has.by (by repeat (first | exact trivial | refine ⟨by first | trivial | exact Weak.refl _ | exact Weak.tok _ _ _ | exact Weak.of_eq (congrArg (AV.int _) (by omega)) | exact Weak.nils _ _ (.inr rfl), ?_⟩))⟩
            · exact ⟨m, ⟨ms, mb, ma, mp, .inl ⟨md, mw, mu, by omega, by omega⟩⟩, rfl, by exact Has.by (by repeat (first | exact trivial | refine ⟨by first | trivial | exact Weak.refl _ | exact Weak.tok _ _ _ | exact Weak.of_eq (congrArg (AV.int _) (by omega)) | exact Weak.nils _ _ (.inr rfl), ?_⟩))⟩
          · rintro E s3 ⟨m, ⟨ms, hma⟩, rfl, hE⟩
            refine W.has hE ?_
            clear hE
            have hs3 := hs.other (cs := msgC m) h812 hx12 hσ12
            have hb3 := hs3.b
            have hm0 := Moves.refl hs3.mq.room
            refine W.regionL (by decide +kernel) rfl ?_
            apply r_op
            exact rfl
            exact rfl
            apply g_fieldAddr
            exact a_fieldAddrP rfl (by decide)
            apply r_load
            exact rfl
            exact rfl
            exact rfl
            decide
            exact rfl
            assumption
            exact aLoad1 rfl
            apply r_load
            exact rfl
            exact rfl
            exact rfl
            decide
            exact rfl
            exact setBox_same
            exact aLoadA rfl (by rfl) rfl
            apply r_op
            exact rfl
            exact rfl
            apply g_buildSlice
            apply a_build1
            (conv => (lhs; whnf))
            exact rfl
            exact rfl
            decide
            apply r_append'
            exact rfl
            exact rfl
            decide
            infer_instance
            exact rfl
            exact rfl
            exact rfl
            exact rfl
            exact rfl
            assumption
            simp only [length_aBytes, List.length_append, List.length_cons, List.length_nil, List.length_map, List.length_range]
            omega
            intro tk1 σ1 hm
            apply r_op
            exact rfl
            exact rfl
            apply g_fieldAddr
            exact a_fieldAddrP rfl (by decide)
            apply r_store
            exact rfl
            exact rfl
            exact rfl
            decide
            infer_instance
            exact rfl
            apply hb_moves (by assumption)
            assumption
            (conv => (lhs; whnf))
            exact rfl
            (conv => (lhs; whnf))
            exact rfl
            exact of_decide_eq_true rfl
            exact rfl
            with_reducible refine runs_done ?_
            refine W.regionL (by decide +kernel) rfl ?_
            apply r_op
            exact rfl
            exact rfl
            apply a_move
            (conv => (lhs; whnf))
            apply r_op
            exact rfl
            exact rfl
            apply g_binOp
            exact a_add64 rfl rfl (by omega)
            apply r_op
            exact rfl
            exact rfl
            apply a_assign
            (conv => (lhs; whnf))
            with_reducible refine runs_done ?_
            have h9 := hs3.queue (x' := { x with queue := x.queue ++ [m] }) hne hbx hm
            simp only [subC, List.map_append, List.map_cons, List.map_nil] at h9
            obtain ⟨k1, k2⟩ := hgr.msg hup (by rw [ms]; exact hsq1) (by rw [ms]; exact hsq) hq30 hma
            rw [ms] at k2
            exact ⟨100 - (i + 4), by omega, i + 4, seq1, { x with queue := x.queue ++ [m] }, ta, tk1, rfl, by omega, by omega, hsq0, hsq, k1, k2, h9, by exact Has.by (by repeat (first | exact trivial | refine ⟨by first | trivial | exact Weak.refl _ | exact Weak.tok _ _ _ | exact Weak.of_eq (congrArg (AV.int _) (by omega)) | exact Weak.nils _ _ (.inr rfl), ?_⟩))⟩
    · rintro E s ⟨x, ta, tq, hgr, hs, hE⟩
      refine W.has hE ?_
      clear hE
      have hb := hs.b
      have hr := hs.r
      refine W.seq ?_
      refine W.regionL (by decide +kernel) rfl ?_
      apply r_load
      exact rfl
      exact rfl
      exact rfl
      decide
      exact rfl
      assumption
      exact aLoadA rfl (by rfl) rfl
      apply r_store
      exact rfl
      exact rfl
      exact rfl
      decide
      infer_instance
      exact rfl
      assumption
      (conv => (lhs; whnf))
      exact rfl
      (conv => (lhs; whnf))
      exact rfl
      exact of_decide_eq_true rfl
      exact setL_whole rfl
      with_reducible refine runs_done ?_
      refine W.ret ?_
      show Q Exit.ret _ _
      refine post_le (σ' := σ) hQ (by apply res_cell; exact rfl; exact setBox_same; exact aLoadA rfl (by rfl) rfl; exact res_nil) rfl (weak_sub x ta tq) (le_setBox hs.ma.le hb8) ?_ (.inl rfl)
      exact ⟨x, rfl, hgr, rfl⟩
end Go.Proofs.YtkbmkhhcppfcnaaDoor
end
section
set_option linter.unusedVariables false
set_option linter.unusedSimpArgs false
set_option maxRecDepth 100000
set_option maxHeartbeats 2000000
namespace Go.Proofs.YtkbmkhhcppfcnaaDoor
open Go.Al Go.RowKit
theorem lawsub_any (w0 : World) (c : List UInt8) (t : Tok) (k : UInt8) (hc : c.length ≤ 9223372036854775807) (σ : St) : CallW Tryd.prog w0 14 [.slc 1 (aBytes c) t, .int .u8 k.toNat] σ (fun r s => ∃ x, r = eSub x ∧ Grown (1 + k.toNat) 9 (2 + k.toNat) x ∧ s = σ) := by
  refine CallW.start Tryd.func14 rfl Tryd.ntmps14 (by simp) fun Q hQ => ?_
  have hk := k.toNat_lt
  have hw : IntKind.i64.wrap (k.toNat : Int) = (k.toNat : Int) := IntWalk.i64_in _ (by omega)
  have hs : ∀ σ, CallW Tryd.prog w0 33 [.slc 1 (aBytes c) t, .int .i64 (1 + IntKind.i64.wrap (k.toNat : Int)), .int .i64 9, .int .i64 (2 + IntKind.i64.wrap (k.toNat : Int))] σ (fun r s => ∃ x, r = eSub x ∧ Grown (1 + k.toNat) 9 (2 + k.toNat) x ∧ s = σ) := fun σ => by
    rw [hw]
    exact sub_any w0 c t (1 + k.toNat) 9 (2 + k.toNat) hc (by omega) (by omega) ⟨by omega, by omega⟩ σ
  refine W.seq ?_
  refine W.regionL (by decide +kernel) rfl ?_
  apply r_alloc
  exact rfl
  exact rfl
  decide
  exact rfl
  (conv => (lhs; whnf))
  intro b1 hb1
  with_reducible refine runs_done ?_
  refine W.seq ?_
  refine W.regionL (by decide +kernel) rfl ?_
  apply r_op
  exact rfl
  exact rfl
  apply a_move
  (conv => (lhs; whnf))
  apply r_op
  exact rfl
  exact rfl
  apply a_move
  (conv => (lhs; whnf))
  apply r_op
  exact rfl
  exact rfl
  apply g_convert
  exact a_convI rfl
  apply r_op
  exact rfl
  exact rfl
  apply g_binOp
  exact a_add64 rfl rfl (by omega)
  apply r_op
  exact rfl
  exact rfl
  apply a_move
  (conv => (lhs; whnf))
  apply r_op
  exact rfl
  exact rfl
  apply g_convert
  exact a_convI rfl
  apply r_op
  exact rfl
  exact rfl
  apply g_binOp
  exact a_add64 rfl rfl (by omega)
  apply r_callX
  exact rfl
  exact rfl
  decide
  exact rfl
  exact rfl
  exact rfl
  infer_instance
  exact hs _
  rintro x1 σ1 ⟨hx1, rfl⟩
  apply r_store
  exact rfl
  exact rfl
  exact rfl
  decide
  infer_instance
  exact rfl
  exact setBox_same
  (conv => (lhs; whnf))
  exact rfl
  (conv => (lhs; whnf))
  exact rfl
  exact of_decide_eq_true rfl
  exact setL_whole rfl
  with_reducible refine runs_done ?_
  refine W.ret ?_
  show Q Exit.ret _ _
  refine post_le (σ' := σ) hQ (by apply res_cell; exact rfl; exact setBox_same; exact aLoadA rfl (by rfl) rfl; exact res_nil) rfl (Weak.refl _) ?_ ?_ (.inl rfl)
  rotate_left
  rotate_left
  · exact le_setBox (le_setBox (.refl _) (by assumption)) (by assumption)
  · exact ⟨x1, rfl, hx1, rfl⟩
theorem encW_p (w0 : World) (hL : Laid w0) (x : Sub) (hx : Fits x) : CallP Tryd.prog w0 16 [eSub x] (.slc 2 ((enc3 x).map eRow) .no) := fun σ => (encW_room w0 hL x hx σ).room
theorem encR_p (w0 : World) (hL : Laid w0) (x : Sub) (hx : Fits x) : CallP Tryd.prog w0 17 [eSub x] (.slc 2 ((enc3 x).map eRow) .no) := fun σ => (encR_room w0 hL x hx σ).room
theorem enc3_len (x : Sub) (hx : Fits x) : (enc3 x).length ≤ 100002 := by
  have := hx.nqueue
  have := preR_len x
  rw [enc3_eq]; simp; omega
theorem same_p (w0 : World) (x : Sub) (hx : Fits x) : CallP Tryd.prog w0 15 [.slc 2 ((enc3 x).map eRow) .no, .slc 2 ((enc3 x).map eRow) .no] (.bool true) := by
  have := sameRows_any w0 (enc3 x) (enc3 x) (by have := enc3_len x hx; omega)
  rwa [show decide (enc3 x = enc3 x) = true by simp] at this
theorem threeEncodes_any (w0 : World) (hL : Laid w0) (c : List UInt8) (t : Tok) (k : UInt8) (n : Int) (s : List UInt8) (hc : c.length ≤ 9223372036854775807) (hs : s.length ≤ 1000000000000000) (σ : St) : CallW Tryd.prog w0 3 [.slc 1 (aBytes c) t, .int .u8 k.toNat, .int .i64 n, .str s] σ (fun r _ => r = .bool true) := by
  refine CallW.start Tryd.func3 rfl Tryd.ntmps3 (by simp) fun Q hQ => ?_
  by_cases hl : 200 < s.length
  · have d : decide ((200 : Int) < (s.length : Int)) = true := decide_eq_true (by omega)
    refine W.seq ?_
    refine W.regionL (by decide +kernel) rfl ?_
    apply r_op
    exact rfl
    exact rfl
    apply a_assign
    (conv => (lhs; whnf))
    with_reducible refine runs_done ?_
    refine W.seq ?_
    refine W.seq ?_
    refine W.regionL (by decide +kernel) rfl ?_
    apply r_op
    exact rfl
    exact rfl
    apply a_move
    (conv => (lhs; whnf))
    apply r_op
    exact rfl
    exact rfl
    apply g_call
    exact a_len_str rfl
    apply r_op
    exact rfl
    exact rfl
    apply g_binOp
    exact a_binI rfl rfl rfl
    apply r_op
    exact rfl
    exact rfl
    apply a_move
    (conv => (lhs; whnf))
    apply q_skip
    exact rfl
    exact want_f rfl rfl rfl (by assumption)
    apply q_skip
    exact rfl
    exact want_f rfl rfl rfl (by assumption)
    apply r_op
    exact rfl
    exact rfl
    apply g_pick
    apply a_pickT rfl (by assumption)
    (conv => (lhs; whnf))
    with_reducible refine runs_done ?_
    refine W.condT rfl (by exact rfl) ?_
    refine W.seq ?_
    refine W.regionL (by decide +kernel) rfl ?_
    apply r_callP
    exact rfl
    exact rfl
    exact rfl
    exact rfl
    exact rfl
    infer_instance
    exact known_any w0 hL
    apply r_op
    exact rfl
    exact rfl
    apply a_assign
    (conv => (lhs; whnf))
    with_reducible refine runs_done ?_
    refine W.ret ?_
    show Q Exit.ret _ _
    refine post_p hQ rfl rfl ?_
    (conv => (lhs; whnf))
  · have d : decide ((200 : Int) < (s.length : Int)) = false := decide_eq_false (by omega)
    refine W.seq ?_
    refine W.regionL (by decide +kernel) rfl ?_
    apply r_op
    exact rfl
    exact rfl
    apply a_assign
    (conv => (lhs; whnf))
    refine runs_done ?_
    show W _ _ _ _ _ _ _
    refine W.seq ?_
    refine W.seq ?_
    refine W.regionL (by decide +kernel) rfl ?_
    apply r_op
    exact rfl
    exact rfl
    apply a_move
    (conv => (lhs; whnf))
    apply r_op
    exact rfl
    exact rfl
    apply g_call
    exact a_len_str rfl
    apply r_op
    exact rfl
    exact rfl
    apply g_binOp
    exact a_binI rfl rfl rfl
    apply r_op
    exact rfl
    exact rfl
    apply a_move
    (conv => (lhs; whnf))
    apply r_callP
    exact rfl
    exact rfl
    exact want_t rfl rfl rfl (by assumption)
    exact rfl
    exact rfl
    infer_instance
    exact known_any w0 hL
    apply r_op
    exact rfl
    exact want_t rfl rfl rfl (by assumption)
    apply g_unOp
    exact a_not rfl
    apply r_op
    exact rfl
    exact rfl
    apply g_pick
    apply a_pickF rfl (by assumption)
    (conv => (lhs; whnf))
    refine runs_done ?_
    show W _ _ _ _ _ _ _
    refine W.condF rfl (by exact rfl) ?_
    refine W.skip ?_
    show W _ _ _ _ _ _ _
    refine W.seq ?_
    refine W.regionL (by decide +kernel) rfl ?_
    apply r_op
    exact rfl
    exact rfl
    apply a_move
    (conv => (lhs; whnf))
    apply r_op
    exact rfl
    exact rfl
    apply a_move
    (conv => (lhs; whnf))
    apply r_callX
    exact rfl
    exact rfl
    decide
    exact rfl
    exact rfl
    exact rfl
    infer_instance
    exact lawsub_any w0 c t k hc _
    rintro x1 σ1 ⟨hx1, rfl⟩
    apply r_alloc
    exact rfl
    exact rfl
    decide
    exact rfl
    (conv => (lhs; whnf))
    intro b1 hb1
    apply r_store
    exact rfl
    exact rfl
    exact rfl
    decide
    infer_instance
    exact rfl
    exact setBox_same
    (conv => (lhs; whnf))
    exact rfl
    (conv => (lhs; whnf))
    exact rfl
    exact of_decide_eq_true rfl
    exact setL_whole rfl
    refine runs_done ?_
    show W _ _ _ _ _ _ _
    have hfx := (show Grown (1 + k.toNat) 9 (2 + k.toNat) x1 from hx1).fits
    have hfy : Fits { x1 with lease := n, want := s, note := s } := ⟨hfx.name, hfx.topic, by show s.length ≤ 1000; omega, by show s.length ≤ 1000; omega, hfx.nacks, hfx.nqueue, hfx.queue⟩
    refine W.seq ?_
    refine W.regionL (by decide +kernel) rfl ?_
    apply r_load
    exact rfl
    exact rfl
    exact rfl
    decide
    exact rfl
    exact setBox_same
    exact aLoadA rfl (by rfl) rfl
    apply r_alloc
    exact rfl
    exact rfl
    decide
    exact rfl
    (conv => (lhs; whnf))
    intro b1 hb1
    apply r_store
    exact rfl
    exact rfl
    exact rfl
    decide
    infer_instance
    exact rfl
    exact setBox_same
    (conv => (lhs; whnf))
    exact rfl
    (conv => (lhs; whnf))
    exact rfl
    exact of_decide_eq_true rfl
    exact setL_whole rfl
    with_reducible refine runs_done ?_
    refine W.seq ?_
    refine W.regionL (by decide +kernel) rfl ?_
    apply r_op
    exact rfl
    exact rfl
    apply a_move
    (conv => (lhs; whnf))
    apply r_op
    exact rfl
    exact rfl
    apply g_fieldAddr
    exact a_fieldAddrP rfl (by decide)
    apply r_store
    exact rfl
    exact rfl
    exact rfl
    decide
    infer_instance
    exact rfl
    exact setBox_same
    (conv => (lhs; whnf))
    exact rfl
    (conv => (lhs; whnf))
    exact rfl
    exact of_decide_eq_true rfl
    exact rfl
    with_reducible refine runs_done ?_
    refine W.seq ?_
    refine W.regionL (by decide +kernel) rfl ?_
    apply r_op
    exact rfl
    exact rfl
    apply a_move
    (conv => (lhs; whnf))
    apply r_op
    exact rfl
    exact rfl
    apply g_fieldAddr
    exact a_fieldAddrP rfl (by decide)
    apply r_store
    exact rfl
    exact rfl
    exact rfl
    decide
    infer_instance
    exact rfl
    exact setBox_same
    (conv => (lhs; whnf))
    exact rfl
    (conv => (lhs; whnf))
    exact rfl
    exact of_decide_eq_true rfl
    exact rfl
    with_reducible refine runs_done ?_
    refine W.seq ?_
    refine W.regionL (by decide +kernel) rfl ?_
    apply r_op
    exact rfl
    exact rfl
    apply a_move
    (conv => (lhs; whnf))
    apply r_op
    exact rfl
    exact rfl
    apply g_fieldAddr
    exact a_fieldAddrP rfl (by decide)
    apply r_store
    exact rfl
    exact rfl
    exact rfl
    decide
    infer_instance
    exact rfl
    exact setBox_same
    (conv => (lhs; whnf))
    exact rfl
    (conv => (lhs; whnf))
    exact rfl
    exact of_decide_eq_true rfl
    exact rfl
    with_reducible refine runs_done ?_
    refine W.seq ?_
    refine W.regionDK 1 [] Ty.mixed (by decide +kernel) (by decide +kernel) rfl ?_
    apply r_load
    exact rfl
    exact rfl
    exact rfl
    decide
    exact rfl
    apply hb_ne (by exact ne_none' (by assumption))
    apply hb_ne (by exact ne_none' (by assumption))
    apply hb_ne (by exact ne_none' (by assumption))
    apply hb_ne (by exact ne_none' (by assumption))
    apply hb_ne (by exact ne_none' (by assumption))
    exact setBox_same
    exact aLoadA rfl (by rfl) rfl
    apply r_callP
    exact rfl
    exact rfl
    exact rfl
    exact rfl
    exact rfl
    infer_instance
    exact encW_p w0 hL x1 hfx
    apply r_load
    exact rfl
    exact rfl
    exact rfl
    decide
    exact rfl
    apply hb_ne (by exact ne_none' (by assumption))
    apply hb_ne (by exact ne_none' (by assumption))
    apply hb_ne (by exact ne_none' (by assumption))
    apply hb_ne (by exact ne_none' (by assumption))
    apply hb_ne (by exact ne_none' (by assumption))
    exact setBox_same
    exact aLoadA rfl (by rfl) rfl
    apply r_callP
    exact rfl
    exact rfl
    exact rfl
    exact rfl
    exact rfl
    infer_instance
    exact encR_p w0 hL x1 hfx
    apply r_callP
    exact rfl
    exact rfl
    exact rfl
    exact rfl
    exact rfl
    infer_instance
    exact same_p w0 x1 hfx
    apply r_op
    exact rfl
    exact rfl
    apply a_move
    (conv => (lhs; whnf))
    apply r_load
    exact rfl
    exact rfl
    exact rfl
    decide
    exact rfl
    exact setBox_same
    exact aLoadA rfl (by rfl) rfl
    apply r_callP
    exact rfl
    exact rfl
    exact rfl
    exact rfl
    exact rfl
    infer_instance
    exact encW_p w0 hL { x1 with lease := n, want := s, note := s } hfy
    apply r_load
    exact rfl
    exact rfl
    exact rfl
    decide
    exact rfl
    exact setBox_same
    exact aLoadA rfl (by rfl) rfl
    apply r_callP
    exact rfl
    exact rfl
    exact rfl
    exact rfl
    exact rfl
    infer_instance
    exact encR_p w0 hL { x1 with lease := n, want := s, note := s } hfy
    apply r_callP
    exact rfl
    exact rfl
    exact rfl
    exact rfl
    exact rfl
    infer_instance
    exact same_p w0 { x1 with lease := n, want := s, note := s } hfy
    apply r_op
    exact rfl
    exact rfl
    apply g_pick
    apply a_pickT rfl (by exact rfl)
    (conv => (lhs; whnf))
    apply r_op
    exact rfl
    exact rfl
    apply a_assign
    (conv => (lhs; whnf))
    with_reducible refine runs_done ?_
    refine W.ret ?_
    show Q Exit.ret _ _
    refine post_p hQ rfl rfl ?_
    (conv => (lhs; whnf))
end Go.Proofs.YtkbmkhhcppfcnaaDoor
end
section
set_option linter.unusedVariables false
set_option linter.unusedSimpArgs false
set_option maxRecDepth 100000
namespace Go.Proofs.YtkbmkhhcppfcnaaDoor
open Go.Al Go.RowKit
theorem drop_get {v : List UInt8} {a : Nat} {c : UInt8} {r : List UInt8} (h : v.drop a = c :: r) : a < v.length ∧ v.getD a 0 = c ∧ v.drop (a + 1) = r := by
  have hl : a < v.length := by
    by_cases hl : a < v.length
    · exact hl
    · rw [List.drop_of_length_le (by omega)] at h; cases h
  rw [List.drop_eq_getElem_cons hl] at h
  injection h with h1 h2
  exact ⟨hl, by simp [List.getD, hl, h1], h2⟩
theorem byte_val {n : Nat} (h : n < 256) : (UInt8.ofNat n).toNat = n := by simp; omega
theorem gn_numB : ∀ (q k i m : Nat) (v : List UInt8) (a : Nat) (rest : List UInt8), v.drop (a + i) = numB q ++ rest → q < 128 ^ (k + 1) → (0 < i → q ≠ 0) → m + q * 2 ^ (7 * i) ≤ 9007199254740992 →
    gn v a (k + 1) i m = (m + q * 2 ^ (7 * i), a + i + (numB q).length, 0) ∧ v.drop (a + i + (numB q).length) = rest := by
  intro q
  induction q using Nat.strongRecOn with
  | _ q ih =>
    intro k i m v a rest hd hq hi hm
    by_cases h : q < 128
    · rw [numB_small h] at hd ⊢
      obtain ⟨hl, hc, hr⟩ := drop_get hd
      refine ⟨?_, hr⟩
      have hv : (UInt8.ofNat q).toNat = q := byte_val (by omega)
      rw [gn, if_neg (by omega)]
      dsimp only
      rw [hc, hv, Nat.mod_eq_of_lt h, if_pos h, if_neg (by omega)]
      rfl
    · rw [numB_big h] at hd ⊢
      obtain ⟨hl, hc, hr⟩ := drop_get hd
      have hv : (UInt8.ofNat (128 + q % 128)).toNat = 128 + q % 128 := byte_val (by omega)
      have hq0 : q / 128 ≠ 0 := by omega
      have hk : 128 ^ (k + 1) = 128 * 128 ^ k := by rw [Nat.pow_succ, Nat.mul_comm]
      cases k with
      | zero => exact absurd hq (by simp; omega)
      | succ k =>
      have e1 : (2 : Nat) ^ (7 * (i + 1)) = 128 * 2 ^ (7 * i) := by rw [show 7 * (i + 1) = 7 * i + 7 by omega, Nat.pow_add, Nat.mul_comm]
      have e2 : q % 128 * 2 ^ (7 * i) + q / 128 * 2 ^ (7 * (i + 1)) = q * 2 ^ (7 * i) := by
        rw [e1, ← Nat.mul_assoc, ← Nat.add_mul]; congr 1; omega
      obtain ⟨g1, g2⟩ := ih (q / 128) (by omega) k (i + 1) (m + q % 128 * 2 ^ (7 * i)) v a rest (by rw [show a + (i + 1) = a + i + 1 by omega]; exact hr) (by rw [hk] at hq; omega) (fun _ => hq0) (by omega)
      refine ⟨?_, ?_⟩
      · rw [gn, if_neg (by omega)]
        dsimp only
        rw [hc, hv, if_neg (by omega), show (128 + q % 128) % 128 = q % 128 by omega, g1]
        rw [List.length_cons]
        congr 1
        · omega
        · congr 1; omega
      · rw [List.length_cons, ← g2]; congr 1; omega
def At (v : List UInt8) (a : Nat) (r : List UInt8) : Prop := a ≤ v.length ∧ v.drop a = r
theorem at_start (v : List UInt8) : At v 0 v := ⟨Nat.zero_le _, rfl⟩
def n53 (n : Int) : Prop := 0 ≤ n ∧ n ≤ 9007199254740992
theorem clampN_53 {n : Int} (h : n53 n) : ((clampN n : Nat) : Int) = n := by unfold n53 at h; unfold clampN; omega
theorem at_len {v : List UInt8} {a : Nat} {x r : List UInt8} (h : At v a (x ++ r)) : a + x.length ≤ v.length := by
  have h1 := congrArg List.length h.2
  have := h.1
  simp at h1; omega
theorem getNum_at {v : List UInt8} {a : Nat} {n : Int} {r : List UInt8} (h : At v a (num n ++ r)) : getNum v a = (clampN n, a + (num n).length, 0) ∧ At v (a + (num n).length) r := by
  have hc := clampN_le n
  obtain ⟨g1, g2⟩ := gn_numB (clampN n) 7 0 0 v a r (by simpa [num] using h.2) (by omega) (fun h => absurd h (by decide)) (by simpa using hc)
  have e : num n = numB (clampN n) := rfl
  refine ⟨?_, at_len h, ?_⟩
  · rw [getNum, if_neg (by have := h.1; omega), g1, e]; simp
  · rw [e, ← g2]; simp
theorem rNum_at {v : List UInt8} {a : Nat} {n : Int} {r : List UInt8} (h : At v a (num n ++ r)) : rNum v a none = (clampN n, a + (num n).length, none) ∧ At v (a + (num n).length) r := by
  obtain ⟨g1, g2⟩ := getNum_at h
  refine ⟨?_, g2⟩
  rw [rNum, g1]; rfl
theorem getText_at {v : List UInt8} {a most : Nat} {s : List UInt8} {r : List UInt8} (h : At v a (txt s ++ r)) (hs : s.length ≤ most) (hm : most ≤ 9007199254740992) : getText v a most = (s, a + (txt s).length, 0) ∧ At v (a + (txt s).length) r := by
  rw [txt, List.append_assoc] at h
  obtain ⟨g1, g2⟩ := getNum_at h
  have hcl : clampN (s.length : Int) = s.length := by unfold clampN; omega
  have hl := at_len g2
  have hd : (v.drop (a + (num s.length).length)).take s.length = s := by rw [g2.2, List.take_left']; rfl
  have e : (txt s).length = (num s.length).length + s.length := by simp [txt]
  have hx : (v.take (a + (num s.length).length + s.length)).drop (a + (num s.length).length) = s := by
    rw [List.drop_take, show a + (num s.length).length + s.length - (a + (num s.length).length) = s.length by omega, hd]
  refine ⟨?_, by omega, ?_⟩
  · rw [getText, g1, hcl]
    dsimp only
    rw [if_neg (by simp), if_neg (by omega), if_neg (by omega), hx, e, Nat.add_assoc]
  · rw [e, ← Nat.add_assoc, ← List.drop_drop, g2.2, List.drop_left']; rfl
theorem rText_at {v : List UInt8} {a most : Nat} {s : List UInt8} {r : List UInt8} (h : At v a (txt s ++ r)) (hs : s.length ≤ most) (hm : most ≤ 9007199254740992) : rText v a none most = (s, a + (txt s).length, none) ∧ At v (a + (txt s).length) r := by
  obtain ⟨g1, g2⟩ := getText_at h hs hm
  refine ⟨?_, g2⟩
  rw [rText, g1]; rfl
end Go.Proofs.YtkbmkhhcppfcnaaDoor
end
section
set_option linter.unusedVariables false
set_option linter.unusedSimpArgs false
namespace Go.Proofs.YtkbmkhhcppfcnaaDoor
open Go.Al
structure Pts where
  v : Nat
  t : UInt8
  id : Int
  seq : Int
  ok : Bool
def Pts.none : Pts := ⟨0, 0, 0, 0, false⟩
def parts (k : List UInt8) : Pts :=
  if k.length = 22 ∧ (48 ≤ (k.getD 0 0).toNat ∧ (k.getD 0 0).toNat ≤ 57) ∧ (97 ≤ (k.getD 1 0).toNat ∧ (k.getD 1 0).toNat ≤ 122) then
    if (goAtoi ((k.take 12).drop 2)).2 = true ∧ (goAtoi (k.drop 12)).2 = true ∧ rkey ((k.getD 0 0).toNat - 48) (k.getD 1 0) (goAtoi ((k.take 12).drop 2)).1 (goAtoi (k.drop 12)).1 = k then
      ⟨(k.getD 0 0).toNat - 48, k.getD 1 0, (goAtoi ((k.take 12).drop 2)).1, (goAtoi (k.drop 12)).1, true⟩
    else .none
  else .none
theorem cl_nn {n : Int} (h : 0 ≤ n ∧ n ≤ 9999999999) : ((cl n : Nat) : Int) = n := by unfold cl; omega
theorem goAtoi_dN (n : Int) : goAtoi (dN 10 (cl n)) = (((cl n : Nat) : Int), true) := goAtoi_ok (n := ((cl n : Nat) : Int)) (by rw [dN_length]; decide) (atoi_dN 9 (cl n) (cl_lt n))
theorem rkey_take (v : Nat) (t : UInt8) (id seq : Int) : ((rkey v t id seq).take 12).drop 2 = dN 10 (cl id) := by
  have hA := dN_length 10 (cl id)
  show ((dN 10 (cl id)) ++ (dN 10 (cl seq))).take 10 = _
  rw [List.take_append_of_le_length (by omega), List.take_of_length_le (by omega)]
theorem rkey_drop (v : Nat) (t : UInt8) (id seq : Int) : (rkey v t id seq).drop 12 = dN 10 (cl seq) := by
  have hA := dN_length 10 (cl id)
  show ((dN 10 (cl id)) ++ (dN 10 (cl seq))).drop 10 = _
  rw [List.drop_append_of_le_length (by omega), List.drop_of_length_le (by omega)]; rfl
theorem rkey_0 (v : Nat) (t : UInt8) (id seq : Int) : (rkey v t id seq).getD 0 0 = UInt8.ofNat (48 + v) := rfl
theorem rkey_1 (v : Nat) (t : UInt8) (id seq : Int) : (rkey v t id seq).getD 1 0 = t := rfl
theorem rkey_cl (v : Nat) (t : UInt8) (id seq : Int) : rkey v t (cl id : Nat) (cl seq : Nat) = rkey v t id seq := by
  have h : ∀ n : Int, cl ((cl n : Nat) : Int) = cl n := fun n => by unfold cl; omega
  simp only [rkey, h]
theorem parts_rkey {v : Nat} (hv : v < 10) {t : UInt8} (ht : 97 ≤ t.toNat ∧ t.toNat ≤ 122) (id seq : Int) : parts (rkey v t id seq) = ⟨v, t, (cl id : Nat), (cl seq : Nat), true⟩ := by
  have hb : (UInt8.ofNat (48 + v)).toNat = 48 + v := byte_val (by omega)
  rw [parts, rkey_0, rkey_1, rkey_take, rkey_drop, goAtoi_dN, goAtoi_dN, hb, rkey_length, if_pos ⟨rfl, by omega, ht⟩]
  rw [show 48 + v - 48 = v by omega]
  simp only [rkey_cl, and_self, if_true]
theorem parts_ok {k : List UInt8} (h : (parts k).ok = true) : (parts k).v < 10 ∧ (97 ≤ (parts k).t.toNat ∧ (parts k).t.toNat ≤ 122) ∧ k = rkey (parts k).v (parts k).t (parts k).id (parts k).seq := by
  unfold parts at h ⊢
  split at h
  · rename_i h1
    rw [if_pos h1]
    split at h
    · rename_i h2
      rw [if_pos h2]
      exact ⟨by show _ - 48 < 10; omega, h1.2.2, h2.2.2.symm⟩
    · cases h
  · cases h
theorem parts_no {k : List UInt8} (h : ¬ (parts k).ok = true) : parts k = .none := by
  unfold parts at h ⊢
  split
  · rename_i h1
    rw [if_pos h1] at h
    split
    · rename_i h2
      rw [if_pos h2] at h
      exact absurd rfl h
    · rfl
  · rfl
theorem digit0 (k : List UInt8) (c : UInt8) : ∃ n : Nat, n < 10 ∧ (goAtoi [c]).1 = n ∧ (48 ≤ c.toNat ∧ c.toNat ≤ 57 → n = c.toNat - 48) := by
  by_cases h : 48 ≤ c.toNat ∧ c.toNat ≤ 57
  · have hd : c = dig (c.toNat - 48) := by
      apply UInt8.toNat_inj.1
      rw [dig, byte_val (by omega)]; omega
    have e : [c] = dN 1 (c.toNat - 48) := by rw [dN, dN, ← hd]; rfl
    have := goAtoi_ok (s := [c]) (by simp) (by rw [e]; exact atoi_dN 0 (c.toNat - 48) (by omega))
    exact ⟨c.toNat - 48, by omega, by rw [this], fun _ => rfl⟩
  · refine ⟨0, by decide, ?_, fun h' => absurd h' h⟩
    have hn : Go.Lib.digitVal c = none := by unfold Go.Lib.digitVal; rw [if_neg (by omega)]
    have : Go.Lib.atoi [c] = none := by
      have h1 : Go.Lib.decNat [c] = none := by simp [Go.Lib.decNat, Go.Lib.decFrom, hn]
      have h2 : Go.Lib.decNat [] = none := rfl
      rw [Go.Lib.atoi, h1, h2]
      simp
    rw [goAtoi, Go.Lib.atoiAll_short [c] (by simp), this]; rfl
def partsR (k : List UInt8) : Pts :=
  if k.length = 22 ∧ (97 ≤ (k.getD 1 0).toNat ∧ (k.getD 1 0).toNat ≤ 122) then
    if rkey (goAtoi (k.take 1)).1.toNat (k.getD 1 0) (goAtoi ((k.take 12).drop 2)).1 (goAtoi (k.drop 12)).1 = k then
      ⟨(goAtoi (k.take 1)).1.toNat, k.getD 1 0, (goAtoi ((k.take 12).drop 2)).1, (goAtoi (k.drop 12)).1, true⟩
    else .none
  else .none
theorem rkey_eq {k : List UInt8} {v : Nat} {t : UInt8} {a b : Int} (h : rkey v t a b = k) : goAtoi ((k.take 12).drop 2) = (((cl a : Nat) : Int), true) ∧ goAtoi (k.drop 12) = (((cl b : Nat) : Int), true) ∧ k.getD 0 0 = UInt8.ofNat (48 + v) := by
  subst h
  rw [rkey_take, rkey_drop, goAtoi_dN, goAtoi_dN]
  exact ⟨rfl, rfl, rfl⟩
theorem partsR_eq (k : List UInt8) : partsR k = parts k := by
  unfold partsR
  split
  · rename_i h1
    obtain ⟨c, k', rfl⟩ : ∃ c k', k = c :: k' := by
      cases k with
      | nil => simp at h1
      | cons c k' => exact ⟨c, k', rfl⟩
    have ht : (c :: k').take 1 = [c] := rfl
    obtain ⟨n, hn, e, hd⟩ := digit0 (c :: k') c
    rw [ht, e, Int.toNat_natCast]
    split
    · rename_i h2
      obtain ⟨g1, g2, g3⟩ := rkey_eq h2
      have gc : c = UInt8.ofNat (48 + n) := g3
      have gn : c.toNat = 48 + n := by rw [gc, byte_val (by omega)]
      have h48 : 48 ≤ ((c :: k').getD 0 0).toNat ∧ ((c :: k').getD 0 0).toNat ≤ 57 := by show 48 ≤ c.toNat ∧ c.toNat ≤ 57; omega
      have hv : ((c :: k').getD 0 0).toNat - 48 = n := by show c.toNat - 48 = n; omega
      rw [parts, if_pos ⟨h1.1, h48, h1.2⟩, if_pos ⟨by rw [g1], by rw [g2], by rw [hv]; exact h2⟩, hv]
    · rename_i h2
      rw [parts]
      split
      · rename_i h3
        rw [if_neg]
        rintro ⟨_, _, h4⟩
        have : ((c :: k').getD 0 0).toNat - 48 = n := (hd h3.2.1).symm
        rw [this] at h4
        exact h2 h4
      · rfl
  · rename_i h1
    rw [parts, if_neg]
    rintro ⟨h2, _, h3⟩
    exact h1 ⟨h2, h3⟩
end Go.Proofs.YtkbmkhhcppfcnaaDoor
end
section
set_option linter.unusedVariables false
set_option linter.unusedSimpArgs false
namespace Go.Proofs.YtkbmkhhcppfcnaaDoor
open Go.Al
def whyN (k : Nat) : List UInt8 := if k = 0 then [] else if k = 1 then [110, 97, 99, 107] else [116, 105, 109, 101]
def rMsg (seq : Int) (v : List UInt8) (a : Nat) (f : Option Nat) : Msg × Nat × Option Nat :=
  let p1 := rText v a f 60
  let p2 := rText v p1.2.1 p1.2.2 30
  let p3 := rNum v p2.2.1 p2.2.2
  let p4 := rNum v p3.2.1 p3.2.2
  let p5 := rNum v p4.2.1 p4.2.2
  let p6 := rNum v p5.2.1 p5.2.2
  (⟨seq, p1.1, p2.1, p3.1, p4.1, decide ((0 : Int) < (p6.1 : Int)), whyN (min p6.1 2), p5.1⟩, p6.2.1, p6.2.2)
def rSub (x : Sub) (v : List UInt8) : Sub × Option Nat :=
  let p1 := rText v 0 none 30
  let p2 := rText v p1.2.1 p1.2.2 30
  let p3 := rText v p2.2.1 p2.2.2 30
  let p4 := rNum v p3.2.1 p3.2.2
  let p5 := rNum v p4.2.1 p4.2.2
  let p6 := rNum v p5.2.1 p5.2.2
  let p7 := rText v p6.2.1 p6.2.2 30
  ({ x with name := p1.1, topic := p2.1, want := p3.1, lease := p4.1, most := p5.1, floor := p6.1, note := p7.1 }, p7.2.2)
def rGaps (v : List UInt8) : Nat → Nat → Option Nat → List Int → List Int × Option Nat
  | 0, _, f, acc => (acc, f)
  | n + 1, a, f, acc => if f = none then rGaps v n (rNum v a f).2.1 (rNum v a f).2.2 (acc ++ [((rNum v a f).1 : Int)]) else (acc, f)
structure D3 where
  x : Sub
  gaps : List Int
  good : Bool
def sub0 : Sub := ⟨0, [], [], [], 0, 0, 0, [], [], []⟩
def dRow (d : D3) (r : Row) : D3 × Option Nat :=
  let p := parts r.key
  let x := { d.x with id := p.id }
  if p.t = 97 then
    let q := rNum r.val 0 none
    let g := rGaps r.val q.1 q.2.1 q.2.2 d.gaps
    (⟨x, g.1, d.good⟩, g.2)
  else if p.t = 113 then
    let m := rMsg p.seq r.val 0 none
    (⟨{ x with queue := x.queue ++ [m.1] }, d.gaps, d.good⟩, m.2.2)
  else if p.t = 115 then
    let s := rSub x r.val
    (⟨s.1, d.gaps, d.good⟩, s.2)
  else (⟨x, d.gaps, d.good⟩, none)
def gtS (a b : List UInt8) : Bool := !(ltS a b || decide (a = b))
def dStep (d : D3) (i : Nat) (prev : List UInt8) (r : Row) : D3 :=
  let q := dRow d r
  { q.1 with good := d.good && (decide (i = 0) || gtS r.key prev) && q.2.isNone }
def dRows (l : List Row) : Nat → D3
  | 0 => ⟨sub0, [], true⟩
  | i + 1 => dStep (dRows l i) i ((l[i - 1]?).getD ⟨[], []⟩).key ((l[i]?).getD ⟨[], []⟩)
def runUp (last : Int) : List Int → List Int
  | [] => []
  | g :: l => w64 (last + g) :: runUp (w64 (last + g)) l
def dSub (l : List Row) : Sub := let d := dRows l l.length; { d.x with acks := runUp d.x.floor d.gaps }
def dec3 (l : List Row) : Sub × Nat := if (dRows l l.length).good = true ∧ enc3 (dSub l) = l then (dSub l, 0) else (sub0, 11)
end Go.Proofs.YtkbmkhhcppfcnaaDoor
end
section
set_option linter.unusedVariables false
set_option linter.unusedSimpArgs false
namespace Go.Proofs.YtkbmkhhcppfcnaaDoor
open Go.Al
theorem rNum_far (v : List UInt8) (a : Nat) (f : Option Nat) : (rNum v a f).2.1 ≤ max a v.length := by
  have h := (getNum_le v a).1
  simp only [rNum, atN]; split <;> omega
theorem getText_far (v : List UInt8) (a most : Nat) : (getText v a most).2.1 ≤ v.length ∧ (getText v a most).1.length ≤ most := by
  have h := (getNum_le v a).1
  unfold getText
  dsimp only
  split
  · simp
  · split
    · simp
    · split
      · simp
      · simp; omega
theorem rText_far (v : List UInt8) (a : Nat) (f : Option Nat) (most : Nat) : (rText v a f most).2.1 ≤ max a v.length := by
  have h := (getText_far v a most).1
  simp only [rText, atN]; split <;> omega
theorem rText_len (v : List UInt8) (a : Nat) (f : Option Nat) (most : Nat) : (rText v a f most).1.length ≤ most := by
  have h := (getText_far v a most).2
  simp only [rText]; split
  · exact h
  · simp
theorem gn_gt : ∀ (v : List UInt8) (a k i n : Nat), (gn v a k i n).2.2 = 0 → a + i < (gn v a k i n).2.1
  | v, a, 0, i, n, h => by simp [gn] at h
  | v, a, k + 1, i, n, h => by
    rw [gn] at h ⊢
    split
    · rename_i h1; rw [if_pos h1] at h; simp at h
    · rename_i h1
      rw [if_neg h1] at h
      dsimp only at h ⊢
      split
      · rename_i h2
        rw [if_pos h2] at h
        split
        · rename_i h3; rw [if_pos h3] at h; simp at h
        · simp
      · rename_i h2
        rw [if_neg h2] at h
        have := gn_gt v a k (i + 1) _ h
        omega
theorem getNum_gt (v : List UInt8) (a : Nat) (h : (getNum v a).2.2 = 0) : a < (getNum v a).2.1 := by
  unfold getNum at h ⊢
  split
  · rename_i h1; rw [if_pos h1] at h; simp at h
  · rename_i h1
    rw [if_neg h1] at h
    exact gn_gt v a 8 0 0 h
theorem rNum_step (v : List UInt8) (a : Nat) : (rNum v a none).2.2 = none → a < (rNum v a none).2.1 ∧ (rNum v a none).2.1 ≤ v.length := by
  intro h
  have he : (getNum v a).2.2 = 0 := by
    simp only [rNum, errN] at h
    by_cases he : (getNum v a).2.2 = 0
    · exact he
    · rw [if_neg he] at h; cases h
  have h1 := getNum_gt v a he
  have h2 := (getNum_le v a).1
  simp only [rNum, atN, if_pos he]
  exact ⟨h1, h2⟩
theorem rGaps_len : ∀ (v : List UInt8) (n a : Nat) (f : Option Nat) (acc : List Int), (f = none → a ≤ v.length) → (rGaps v n a f acc).1.length ≤ acc.length + (v.length - a) + 1
  | v, 0, a, f, acc, h => by simp [rGaps]; omega
  | v, n + 1, a, f, acc, h => by
    rw [rGaps]
    split
    · rename_i hf
      subst hf
      have ha := h rfl
      cases hr : (rNum v a none).2.2 with
      | none =>
        obtain ⟨h1, h2⟩ := rNum_step v a hr
        have := rGaps_len v n (rNum v a none).2.1 none (acc ++ [((rNum v a none).1 : Int)]) (fun _ => h2)
        simp at this
        omega
      | some e =>
        have : rGaps v n (rNum v a none).2.1 (some e) (acc ++ [((rNum v a none).1 : Int)]) = (acc ++ [((rNum v a none).1 : Int)], some e) := by
          cases n <;> simp [rGaps]
        rw [this]; simp
    · simp; omega
def tot (l : List Row) : Nat := (l.map fun r => r.val.length + 1).sum
theorem tot_take {l : List Row} {i : Nat} {r : Row} (h : l[i]? = some r) : tot (l.take (i + 1)) = tot (l.take i) + r.val.length + 1 := by
  rw [take_snoc h]; simp [tot]; omega
theorem tot_le (l : List Row) (i : Nat) : tot (l.take i) ≤ tot l := by
  have : tot l = tot (l.take i) + tot (l.drop i) := by
    conv => lhs; rw [← List.take_append_drop i l]
    simp only [tot, List.map_append, List.sum_append]
  omega
theorem tot_len : ∀ l : List Row, l.length ≤ tot l
  | [] => by simp [tot]
  | r :: l => by have := tot_len l; simp [tot] at this ⊢; omega
theorem tot_mem {l : List Row} {r : Row} (h : r ∈ l) : r.val.length + 1 ≤ tot l := by
  obtain ⟨i, hi, rfl⟩ := List.getElem_of_mem h
  have h1 := tot_take (l := l) (i := i) (r := l[i]) (by simp [hi])
  have h2 := tot_le l (i + 1)
  omega
structure DFit (d : D3) (n m : Nat) : Prop where
  name : d.x.name.length ≤ 1000
  topic : d.x.topic.length ≤ 1000
  want : d.x.want.length ≤ 1000
  note : d.x.note.length ≤ 1000
  acks : d.x.acks = []
  gaps : d.gaps.length ≤ n
  queue : d.x.queue.length ≤ m
  msgs : ∀ m ∈ d.x.queue, m.body.length ≤ 1000 ∧ m.attr.length ≤ 1000
theorem rMsg_fit (seq : Int) (v : List UInt8) (a : Nat) (f : Option Nat) : (rMsg seq v a f).1.body.length ≤ 1000 ∧ (rMsg seq v a f).1.attr.length ≤ 1000 := by
  have h1 := rText_len v a f 60
  have h2 := rText_len v (rText v a f 60).2.1 (rText v a f 60).2.2 30
  simp only [rMsg]
  omega
theorem dRow_fit {d : D3} {n m : Nat} (h : DFit d n m) (r : Row) : DFit (dRow d r).1 (n + r.val.length + 1) (m + 1) := by
  have hg := h.gaps
  have hq := h.queue
  unfold dRow
  dsimp only
  split
  · refine ⟨h.name, h.topic, h.want, h.note, h.acks, ?_, by show d.x.queue.length ≤ m + 1; omega, h.msgs⟩
    have := rGaps_len r.val (rNum r.val 0 none).1 (rNum r.val 0 none).2.1 (rNum r.val 0 none).2.2 d.gaps (fun hf => (rNum_step r.val 0 hf).2)
    show (rGaps _ _ _ _ _).1.length ≤ _
    omega
  · split
    · refine ⟨h.name, h.topic, h.want, h.note, h.acks, by show d.gaps.length ≤ _; omega, by show (d.x.queue ++ _).length ≤ _; simp; omega, ?_⟩
      intro y hy
      rcases List.mem_append.1 hy with hy | hy
      · exact h.msgs y hy
      · obtain rfl := List.mem_singleton.1 hy; exact rMsg_fit _ _ _ _
    · split
      · refine ⟨?_, ?_, ?_, ?_, h.acks, by show d.gaps.length ≤ _; omega, by show d.x.queue.length ≤ m + 1; omega, h.msgs⟩
        all_goals
          simp only [rSub]
          refine Nat.le_trans (rText_len _ _ _ _) (by decide)
      · exact ⟨h.name, h.topic, h.want, h.note, h.acks, by show d.gaps.length ≤ _; omega, by show d.x.queue.length ≤ m + 1; omega, h.msgs⟩
theorem dRows_fit (l : List Row) : ∀ i, i ≤ l.length → DFit (dRows l i) (tot (l.take i)) i
  | 0, _ => ⟨by simp [dRows, sub0], by simp [dRows, sub0], by simp [dRows, sub0], by simp [dRows, sub0], rfl, by simp [dRows], by simp [dRows, sub0], by simp [dRows, sub0]⟩
  | i + 1, hi => by
    have h := dRows_fit l i (by omega)
    have hg : l[i]? = some l[i] := by simp [show i < l.length by omega]
    have h2 := dRow_fit h l[i]
    rw [dRows, tot_take hg, hg]
    exact ⟨h2.name, h2.topic, h2.want, h2.note, h2.acks, h2.gaps, h2.queue, h2.msgs⟩
theorem runUp_len : ∀ (l : List Int) (a : Int), (runUp a l).length = l.length
  | [], _ => rfl
  | g :: l, a => by simp [runUp, runUp_len l]
theorem dSub_fits (l : List Row) (h : tot l ≤ 100000) : Fits (dSub l) := by
  have hf := dRows_fit l l.length (Nat.le_refl _)
  have hl := tot_len l
  have ht := hf.gaps
  rw [List.take_length] at ht
  have hq := hf.queue
  exact ⟨hf.name, hf.topic, hf.want, hf.note, by show (runUp _ _).length ≤ _; rw [runUp_len]; omega, by show (dRows l l.length).x.queue.length ≤ _; omega, hf.msgs⟩
end Go.Proofs.YtkbmkhhcppfcnaaDoor
end
section
set_option linter.unusedVariables false
set_option linter.unusedSimpArgs false
namespace Go.Proofs.YtkbmkhhcppfcnaaDoor
open Go.Al
theorem ltS_nil (l : List UInt8) : ltS l [] = false := by cases l <;> rfl
theorem ltS_cons (a b : UInt8) (l m : List UInt8) : ltS (a :: l) (b :: m) = (decide (a < b) || (a == b && ltS l m)) := rfl
theorem ltS_irr : ∀ l : List UInt8, ltS l l = false
  | [] => rfl
  | a :: l => by rw [ltS_cons, ltS_irr l]; simp
theorem ltS_app : ∀ (p l m : List UInt8), ltS (p ++ l) (p ++ m) = ltS l m
  | [], l, m => rfl
  | a :: p, l, m => by rw [List.cons_append, List.cons_append, ltS_cons, ltS_app p]; simp
theorem ltS_same : ∀ (p q l m : List UInt8), p.length = q.length → ltS p q = true → ltS (p ++ l) (q ++ m) = true
  | [], [], l, m, _, h => by cases h
  | a :: p, b :: q, l, m, hl, h => by
    rw [ltS_cons] at h
    rw [List.cons_append, List.cons_append, ltS_cons]
    simp only [Bool.or_eq_true, Bool.and_eq_true] at h ⊢
    exact h.imp id fun h => ⟨h.1, ltS_same p q l m (by simpa using hl) h.2⟩
theorem ltS_asymm : ∀ (l m : List UInt8), ltS l m = true → ltS m l = false
  | l, [], h => by rw [ltS_nil] at h; cases h
  | [], b :: m, _ => rfl
  | a :: l, b :: m, h => by
    rw [ltS_cons] at h ⊢
    simp only [Bool.or_eq_true, Bool.and_eq_true, decide_eq_true_eq, beq_iff_eq] at h
    simp only [Bool.or_eq_false_iff, Bool.and_eq_false_iff, decide_eq_false_iff_not]
    rcases h with h | ⟨rfl, h⟩
    · have hn : a.toNat < b.toNat := h
      refine ⟨fun h' => ?_, .inl ?_⟩
      · have : b.toNat < a.toNat := h'
        omega
      · rw [beq_eq_false_iff_ne]
        rintro rfl
        omega
    · exact ⟨fun h' => by have : a.toNat < a.toNat := h'; omega, .inr (ltS_asymm l m h)⟩
theorem ltS_trans : ∀ (l m n : List UInt8), ltS l m = true → ltS m n = true → ltS l n = true
  | l, m, [], _, h => by rw [ltS_nil] at h; cases h
  | l, [], _ :: _, h, _ => by rw [ltS_nil] at h; cases h
  | [], _ :: _, _ :: _, _, _ => rfl
  | a :: l, b :: m, c :: n, h, k => by
    rw [ltS_cons] at h k ⊢
    simp only [Bool.or_eq_true, Bool.and_eq_true, decide_eq_true_eq, beq_iff_eq] at h k ⊢
    rcases h with h | ⟨rfl, h⟩
    · rcases k with k | ⟨rfl, k⟩
      · left
        have h1 : a.toNat < b.toNat := h
        have h2 : b.toNat < c.toNat := k
        show a.toNat < c.toNat
        omega
      · exact .inl h
    · rcases k with k | ⟨rfl, k⟩
      · exact .inl k
      · exact .inr ⟨rfl, ltS_trans l m n h k⟩
theorem ltS_not_le {a b : List UInt8} (h : ltS a b = true) : (ltS b a || decide (b = a)) = false := by
  rw [ltS_asymm a b h, Bool.false_or, decide_eq_false_iff_not]
  rintro rfl
  rw [ltS_irr] at h; cases h
theorem gtS_of {a b : List UInt8} (h : ltS b a = true) : gtS a b = true := by
  rw [gtS, ltS_not_le h]; rfl
theorem dN_lt : ∀ (k a b : Nat), a < b → b < 10 ^ k → ltS (dN k a) (dN k b) = true
  | 0, a, b, h, hb => by simp at hb; omega
  | k + 1, a, b, h, hb => by
    rw [dN, dN]
    have hb' : b / 10 < 10 ^ k := by rw [Nat.pow_succ] at hb; omega
    by_cases hq : a / 10 < b / 10
    · exact ltS_same _ _ _ _ (by rw [dN_length, dN_length]) (dN_lt k _ _ hq hb')
    · have he : a / 10 = b / 10 := by omega
      rw [he, ltS_app, ltS_cons]
      have h1 : (dig a).toNat = 48 + a % 10 := by rw [dig, byte_val (by omega)]
      have h2 : (dig b).toNat = 48 + b % 10 := by rw [dig, byte_val (by omega)]
      have : dig a < dig b := by show (dig a).toNat < (dig b).toNat; omega
      simp [this]
theorem cl_mono {a b : Int} (h0 : 0 ≤ a) (h : a < b) (hb : b ≤ 9999999999) : cl a < cl b := by unfold cl; omega
theorem rkey_seq (v : Nat) (t : UInt8) (id : Int) {a b : Int} (h0 : 0 ≤ a) (h : a < b) (hb : b ≤ 9999999999) : ltS (rkey v t id a) (rkey v t id b) = true := by
  rw [rkey, rkey, ltS_app]
  exact dN_lt 10 _ _ (cl_mono h0 h hb) (cl_lt b)
theorem rkey_table (v : Nat) {t u : UInt8} (h : t.toNat < u.toNat) (id a b : Int) : ltS (rkey v t id a) (rkey v u id b) = true := by
  show ltS (UInt8.ofNat (48 + v) :: t :: (dN 10 (cl id) ++ dN 10 (cl a))) (UInt8.ofNat (48 + v) :: u :: (dN 10 (cl id) ++ dN 10 (cl b))) = true
  rw [ltS_cons, ltS_cons]
  have : t < u := h
  simp [this]
def Up (l : List Row) : Prop := l.Pairwise fun a b => ltS a.key b.key = true
theorem Up.get {l : List Row} (h : Up l) {i : Nat} {a b : Row} (ha : l[i]? = some a) (hb : l[i + 1]? = some b) : ltS a.key b.key = true := by
  obtain ⟨h1, rfl⟩ := List.getElem?_eq_some_iff.1 ha
  obtain ⟨h2, rfl⟩ := List.getElem?_eq_some_iff.1 hb
  exact List.pairwise_iff_getElem.1 h i (i + 1) h1 h2 (by omega)
theorem rise_rows (v : Nat) (t : UInt8) (id : Int) (f : Msg → List UInt8) : ∀ (q : List Msg) (lo : Int), 0 ≤ lo → Rise lo (q.map Msg.seq) → (∀ m ∈ q, m.seq ≤ 9999999999) → Up (q.map fun m => ⟨rkey v t id m.seq, f m⟩)
  | [], _, _, _, _ => .nil
  | m :: q, lo, h0, h, hh => by
    have h1 : lo < m.seq := h.1
    refine .cons ?_ (rise_rows v t id f q m.seq (by omega) h.2 fun x hx => hh x (by simp [hx]))
    intro r hr
    obtain ⟨x, hx, rfl⟩ := List.mem_map.1 hr
    have : m.seq < x.seq := h.2.lt _ (List.mem_map.2 ⟨x, hx, rfl⟩)
    exact rkey_seq v t id (by omega) this (hh x (by simp [hx]))
theorem enc3_up {id clock next : Nat} {x : Sub} (h : Grown id clock next x) (hn : next ≤ 9999999999) : Up (enc3 x) := by
  rw [enc3, Up, List.pairwise_append, List.pairwise_append]
  refine ⟨⟨?_, ?_, ?_⟩, .cons (by simp) .nil, ?_⟩
  · split
    · exact .nil
    · exact .cons (by simp) .nil
  · exact rise_rows 3 113 x.id msgB x.queue x.floor h.floor.1 h.qrise fun m hm => by have := h.qhigh m hm; omega
  · intro a ha b hb
    obtain ⟨m, hm, rfl⟩ := List.mem_map.1 hb
    split at ha
    · simp at ha
    · obtain rfl := List.mem_singleton.1 ha
      exact rkey_table 3 (by decide) x.id 0 m.seq
  · intro a ha b hb
    obtain rfl := List.mem_singleton.1 hb
    rcases List.mem_append.1 ha with ha | ha
    · split at ha
      · simp at ha
      · obtain rfl := List.mem_singleton.1 ha
        exact rkey_table 3 (by decide) x.id 0 0
    · obtain ⟨m, hm, rfl⟩ := List.mem_map.1 ha
      exact rkey_table 3 (by decide) x.id m.seq 0
theorem num_len2 {n : Int} (h : n < 16384) : (num n).length ≤ 2 := numB_len 1 _ (by unfold clampN; omega)
theorem num_len1 {n : Int} (h : n < 128) : (num n).length ≤ 1 := numB_len 0 _ (by unfold clampN; omega)
theorem gaps_short : ∀ (l : List Int) (lo : Int) (n : Nat), 0 ≤ lo → Rise lo l → (∀ a ∈ l, a < n) → n ≤ 16384 → (gapsB lo l).length ≤ 2 * l.length
  | [], _, _, _, _, _, _ => by simp [gapsB]
  | a :: l, lo, n, h0, h, hh, hn => by
    have h1 := h.1
    have h2 := hh a (by simp)
    have h3 : w64 (a - lo) = a - lo := Go.IntWalk.i64_in _ (by omega)
    have h4 := num_len2 (n := a - lo) (by omega)
    have h5 := gaps_short l a n (by omega) h.2 (fun x hx => hh x (by simp [hx])) hn
    rw [gapsB, h3]
    simp; omega
theorem topic_short {v : List UInt8} (h : TopicOk v) : v.length ≤ 3 := by rcases h with rfl | rfl | rfl | rfl <;> decide
theorem want_short {v : List UInt8} (h : WantOk v) : v.length ≤ 7 := by rcases h with rfl | rfl | rfl <;> decide
theorem attr_short {c m l : Int} {x : Msg} (h : MsgOk c m l x) : x.attr.length ≤ 3 := by rcases h.attr with e | e | e <;> rw [e] <;> decide
theorem acksB_short {id clock next : Nat} {x : Sub} (h : Grown id clock next x) (hn : next ≤ 16384) : (acksB x).length ≤ 150 := by
  have h1 := num_len1 (n := x.acks.length) (by have := h.nacks; omega)
  have h2 := gaps_short x.acks x.floor next h.floor.1 h.rise h.high hn
  have h3 := h.nacks
  rw [acksB]; simp; omega
theorem msgB_short {c m l : Int} {x : Msg} (h : MsgOk c m l x) : (msgB x).length ≤ 150 := by
  have h1 := txt_len x.body
  have h2 := txt_len x.attr
  have h3 := h.body
  have h4 := attr_short h
  have h5 := num_len x.tries
  have h6 := num_len x.until_
  have h7 := num_len x.prio
  have h8 := num_len (deathN x)
  rw [msgB]; simp; omega
theorem subB_short {id clock next : Nat} {x : Sub} (h : Grown id clock next x) : (subB x).length ≤ 150 := by
  have h1 := txt_len x.name
  have h2 := txt_len x.topic
  have h3 := txt_len x.want
  have h4 := txt_len x.note
  have h5 := num_len x.lease
  have h6 := num_len x.most
  have h7 := num_len x.floor
  have h8 := h.nlen
  have h9 := topic_short h.topic
  have ha := want_short h.want
  have hb := h.note
  rw [subB]; simp; omega
theorem enc3_row {id clock next : Nat} {x : Sub} (h : Grown id clock next x) (hn : next ≤ 16384) {r : Row} (hr : r ∈ enc3 x) : (∃ t seq, (97 ≤ t.toNat ∧ t.toNat ≤ 122) ∧ r.key = rkey 3 t x.id seq) ∧ r.val.length ≤ 150 := by
  rw [enc3] at hr
  rcases List.mem_append.1 hr with hr | hr
  · rcases List.mem_append.1 hr with hr | hr
    · split at hr
      · simp at hr
      · obtain rfl := List.mem_singleton.1 hr
        exact ⟨⟨97, 0, by decide, rfl⟩, acksB_short h hn⟩
    · obtain ⟨m, hm, rfl⟩ := List.mem_map.1 hr
      exact ⟨⟨113, m.seq, by decide, rfl⟩, msgB_short (h.msgs m hm)⟩
  · obtain rfl := List.mem_singleton.1 hr
    exact ⟨⟨115, 0, by decide, rfl⟩, subB_short h⟩
end Go.Proofs.YtkbmkhhcppfcnaaDoor
end
section
set_option linter.unusedVariables false
set_option linter.unusedSimpArgs false
set_option maxRecDepth 100000
set_option maxHeartbeats 2000000
namespace Go.Proofs.YtkbmkhhcppfcnaaDoor
open Go.Al Go.RowKit
def ePts (p : Pts) : AV := .tup [.int .i64 p.v, .int .u8 p.t.toNat, .int .i64 p.id, .int .i64 p.seq, .bool p.ok]
theorem getD_get {k : List UInt8} {i : Nat} (h : i < k.length) : k[i]? = some (k.getD i 0) := by simp [List.getD, h]
theorem a_nilEn {E : AEnv} {x y : Operand} {yt : TypeId} {b : Bool} (hx : aeval E x = eErr b) (hy : y = .const .nilIface) : Al.Yields Tryd.prog E (.binOp .neq 65 x y yt) (.bool (!b)) := by
  subst hy
  cases b
  · exact a_nilI hx rfl (.inr ⟨_, _, rfl⟩) rfl rfl rfl
  · exact a_nilI hx rfl (.inl rfl) rfl rfl rfl
theorem a_nilEe {E : AEnv} {x y : Operand} {yt : TypeId} {b : Bool} (hx : aeval E x = eErr b) (hy : y = .const .nilIface) : Al.Yields Tryd.prog E (.binOp .eql 65 x y yt) (.bool b) := by
  subst hy
  cases b
  · exact a_nilI hx rfl (.inr ⟨_, _, rfl⟩) rfl rfl rfl
  · exact a_nilI hx rfl (.inl rfl) rfl rfl rfl
theorem partsS_any (w0 : World) (hL : Laid w0) (k : List UInt8) (hk : k.length ≤ 1000000) : CallP Tryd.prog w0 44 [.str k] (ePts (parts k)) := by
  refine CallP.start Tryd.func44 rfl Tryd.ntmps44 (by simp) fun σ Q hQ => ?_
  by_cases h0 : ¬ k.length = 22
  · have d0 : (!decide (((k.length : Nat) : Int) = 22)) = true := by simp; omega
    rw [parts, if_neg (fun h => h0 h.1)] at hQ
    refine W.seq ?_
    refine W.regionL (by decide +kernel) rfl ?_
    apply r_op
    exact rfl
    exact rfl
    apply a_assign
    (conv => (lhs; whnf))
    apply r_op
    exact rfl
    exact rfl
    apply a_assign
    (conv => (lhs; whnf))
    apply r_op
    exact rfl
    exact rfl
    apply a_assign
    (conv => (lhs; whnf))
    apply r_op
    exact rfl
    exact rfl
    apply a_assign
    (conv => (lhs; whnf))
    apply r_op
    exact rfl
    exact rfl
    apply a_assign
    (conv => (lhs; whnf))
    with_reducible refine runs_done ?_
    refine W.seq ?_
    refine W.seq ?_
    refine W.regionL (by decide +kernel) rfl ?_
    apply r_op
    exact rfl
    exact rfl
    apply a_move
    (conv => (lhs; whnf))
    apply r_op
    exact rfl
    exact rfl
    apply g_call
    exact a_len_str rfl
    apply r_op
    exact rfl
    exact rfl
    apply g_binOp
    exact a_binI rfl rfl rfl
    apply r_op
    exact rfl
    exact rfl
    apply a_move
    (conv => (lhs; whnf))
    apply q_skip
    exact rfl
    exact want_f rfl rfl rfl (by assumption)
    apply q_skip
    exact rfl
    exact want_f rfl rfl rfl (by assumption)
    apply q_skip
    exact rfl
    exact want_f rfl rfl rfl (by assumption)
    apply r_op
    exact rfl
    exact rfl
    apply g_pick
    apply a_pickT rfl (by assumption)
    (conv => (lhs; whnf))
    apply r_op
    exact rfl
    exact rfl
    apply a_move
    (conv => (lhs; whnf))
    apply q_skip
    exact rfl
    exact want_f rfl rfl rfl (by exact rfl)
    apply q_skip
    exact rfl
    exact want_f rfl rfl rfl (by exact rfl)
    apply q_skip
    exact rfl
    exact want_f rfl rfl rfl (by exact rfl)
    apply r_op
    exact rfl
    exact rfl
    apply g_pick
    apply a_pickT rfl (by exact rfl)
    (conv => (lhs; whnf))
    apply r_op
    exact rfl
    exact rfl
    apply a_move
    (conv => (lhs; whnf))
    apply q_skip
    exact rfl
    exact want_f rfl rfl rfl (by exact rfl)
    apply q_skip
    exact rfl
    exact want_f rfl rfl rfl (by exact rfl)
    apply q_skip
    exact rfl
    exact want_f rfl rfl rfl (by exact rfl)
    apply r_op
    exact rfl
    exact rfl
    apply g_pick
    apply a_pickT rfl (by exact rfl)
    (conv => (lhs; whnf))
    apply r_op
    exact rfl
    exact rfl
    apply a_move
    (conv => (lhs; whnf))
    apply q_skip
    exact rfl
    exact want_f rfl rfl rfl (by exact rfl)
    apply q_skip
    exact rfl
    exact want_f rfl rfl rfl (by exact rfl)
    apply q_skip
    exact rfl
    exact want_f rfl rfl rfl (by exact rfl)
    apply r_op
    exact rfl
    exact rfl
    apply g_pick
    apply a_pickT rfl (by exact rfl)
    (conv => (lhs; whnf))
    with_reducible refine runs_done ?_
    refine W.condT rfl (by exact rfl) ?_
    refine W.seq ?_
    refine W.regionL (by decide +kernel) rfl ?_
    apply r_op
    exact rfl
    exact rfl
    apply a_assign
    (conv => (lhs; whnf))
    apply r_op
    exact rfl
    exact rfl
    apply a_assign
    (conv => (lhs; whnf))
    apply r_op
    exact rfl
    exact rfl
    apply a_assign
    (conv => (lhs; whnf))
    apply r_op
    exact rfl
    exact rfl
    apply a_assign
    (conv => (lhs; whnf))
    apply r_op
    exact rfl
    exact rfl
    apply a_assign
    (conv => (lhs; whnf))
    with_reducible refine runs_done ?_
    refine W.ret ?_
    show Q Exit.ret _ _
    refine post_q hQ (by apply res_tmp; exact rfl; apply res_tmp; exact rfl; apply res_tmp; exact rfl; apply res_tmp; exact rfl; apply res_tmp; exact rfl; exact res_nil) (.inl rfl) (by exact .refl _) ?_
    (conv => (lhs; whnf))
    rfl
  have h0 := Decidable.of_not_not h0
  have d0 : (!decide (((k.length : Nat) : Int) = 22)) = false := by simp [h0]
  have g0 : k[(0 : Int).toNat]? = some (k.getD 0 0) := getD_get (by omega)
  have g1 : k[(1 : Int).toNat]? = some (k.getD 1 0) := getD_get (by omega)
  have hA1 := goAtoi_any w0 hL ((k.take (12 : Int).toNat).drop (2 : Int).toNat) (by simp; omega)
  have hA2 := goAtoi_any w0 hL ((k.take ((k.length : Nat) : Int).toNat).drop (12 : Int).toNat) (by simp; omega)
  have e1 : (k.take 12).drop 2 = (k.take (12 : Int).toNat).drop (2 : Int).toNat := rfl
  have e2 : k.drop 12 = (k.take ((k.length : Nat) : Int).toNat).drop (12 : Int).toNat := by rw [Int.toNat_natCast, List.take_length]; rfl
  have hp : parts k = if k.length = 22 ∧ (48 ≤ (k.getD 0 0).toNat ∧ (k.getD 0 0).toNat ≤ 57) ∧ (97 ≤ (k.getD 1 0).toNat ∧ (k.getD 1 0).toNat ≤ 122) then _ else _ := rfl
  rw [e1, e2] at hp
  generalize k.getD 0 0 = c0 at g0 hp
  generalize k.getD 1 0 = t at g1 hp
  generalize goAtoi ((k.take (12 : Int).toNat).drop (2 : Int).toNat) = A1 at hA1 hp
  generalize goAtoi ((k.take ((k.length : Nat) : Int).toNat).drop (12 : Int).toNat) = A2 at hA2 hp
  obtain ⟨a, ba⟩ := A1
  obtain ⟨b, bb⟩ := A2
  dsimp only at hA1 hA2 hp
  have hK : 48 ≤ c0.toNat ∧ c0.toNat ≤ 57 → CallP Tryd.prog w0 35 [.int .i64 (IntKind.i64.wrap (((Al.byteOf ((c0.toNat : Int) - 48)).toNat : Nat) : Int)), .int .u8 t.toNat, .int .i64 a, .int .i64 b] (.str (rkey (c0.toNat - 48) t a b)) := fun h => by
    rw [sub48 h]
    exact keyS_any w0 hL _ (by omega) _ a b
  clear e1 e2
  refine W.seq ?_
  refine W.regionL (by decide +kernel) rfl ?_
  apply r_op
  exact rfl
  exact rfl
  apply a_assign
  (conv => (lhs; whnf))
  apply r_op
  exact rfl
  exact rfl
  apply a_assign
  (conv => (lhs; whnf))
  apply r_op
  exact rfl
  exact rfl
  apply a_assign
  (conv => (lhs; whnf))
  apply r_op
  exact rfl
  exact rfl
  apply a_assign
  (conv => (lhs; whnf))
  apply r_op
  exact rfl
  exact rfl
  apply a_assign
  (conv => (lhs; whnf))
  with_reducible refine runs_done ?_
  refine W.seq ?_
  refine W.seq ?_
  refine W.regionL (by decide +kernel) rfl ?_
  apply r_op
  exact rfl
  exact rfl
  apply a_move
  (conv => (lhs; whnf))
  apply r_op
  exact rfl
  exact rfl
  apply g_call
  exact a_len_str rfl
  apply r_op
  exact rfl
  exact rfl
  apply g_binOp
  exact a_binI rfl rfl rfl
  apply r_op
  exact rfl
  exact rfl
  apply a_move
  (conv => (lhs; whnf))
  apply r_op
  exact rfl
  exact want_t rfl rfl rfl (by assumption)
  apply a_move
  (conv => (lhs; whnf))
  apply r_op
  exact rfl
  exact want_t rfl rfl rfl (by assumption)
  apply g_index
  exact a_indexS rfl rfl (by omega) (by assumption)
  apply r_op
  exact rfl
  exact want_t rfl rfl rfl (by assumption)
  apply g_binOp
  exact a_binI rfl rfl rfl
  apply r_op
  exact rfl
  exact rfl
  apply g_pick
  apply a_pickF rfl (by assumption)
  (conv => (lhs; whnf))
  apply r_op
  exact rfl
  exact rfl
  apply a_move
  (conv => (lhs; whnf))
  refine q_split rfl rfl rfl (fun hg => ?_) (fun hg => ?_)
  apply q_skip
  exact rfl
  exact want_f rfl rfl rfl (by assumption)
  apply q_skip
  exact rfl
  exact want_f rfl rfl rfl (by assumption)
  apply q_skip
  exact rfl
  exact want_f rfl rfl rfl (by assumption)
  apply r_op
  exact rfl
  exact rfl
  apply g_pick
  apply a_pickT rfl (by assumption)
  (conv => (lhs; whnf))
  apply r_op
  exact rfl
  exact rfl
  apply a_move
  (conv => (lhs; whnf))
  apply q_skip
  exact rfl
  exact want_f rfl rfl rfl (by exact rfl)
  apply q_skip
  exact rfl
  exact want_f rfl rfl rfl (by exact rfl)
  apply q_skip
  exact rfl
  exact want_f rfl rfl rfl (by exact rfl)
  apply r_op
  exact rfl
  exact rfl
  apply g_pick
  apply a_pickT rfl (by exact rfl)
  (conv => (lhs; whnf))
  apply r_op
  exact rfl
  exact rfl
  apply a_move
  (conv => (lhs; whnf))
  apply q_skip
  exact rfl
  exact want_f rfl rfl rfl (by exact rfl)
  apply q_skip
  exact rfl
  exact want_f rfl rfl rfl (by exact rfl)
  apply q_skip
  exact rfl
  exact want_f rfl rfl rfl (by exact rfl)
  apply r_op
  exact rfl
  exact rfl
  apply g_pick
  apply a_pickT rfl (by exact rfl)
  (conv => (lhs; whnf))
  with_reducible refine runs_done ?_
  refine W.condT rfl (by exact rfl) ?_
  refine W.seq ?_
  refine W.regionL (by decide +kernel) rfl ?_
  apply r_op
  exact rfl
  exact rfl
  apply a_assign
  (conv => (lhs; whnf))
  apply r_op
  exact rfl
  exact rfl
  apply a_assign
  (conv => (lhs; whnf))
  apply r_op
  exact rfl
  exact rfl
  apply a_assign
  (conv => (lhs; whnf))
  apply r_op
  exact rfl
  exact rfl
  apply a_assign
  (conv => (lhs; whnf))
  apply r_op
  exact rfl
  exact rfl
  apply a_assign
  (conv => (lhs; whnf))
  with_reducible refine runs_done ?_
  refine W.ret ?_
  show Q Exit.ret _ _
  refine post_q hQ (by apply res_tmp; exact rfl; apply res_tmp; exact rfl; apply res_tmp; exact rfl; apply res_tmp; exact rfl; apply res_tmp; exact rfl; exact res_nil) (.inl rfl) (by exact .refl _) ?_
  (conv => (lhs; whnf))
  rotate_left
  apply r_op
  exact rfl
  exact want_t rfl rfl rfl (by assumption)
  apply a_move
  (conv => (lhs; whnf))
  apply r_op
  exact rfl
  exact want_t rfl rfl rfl (by assumption)
  apply g_index
  exact a_indexS rfl rfl (by omega) (by assumption)
  apply r_op
  exact rfl
  exact want_t rfl rfl rfl (by assumption)
  apply g_binOp
  exact a_binI rfl rfl rfl
  apply r_op
  exact rfl
  exact rfl
  apply g_pick
  apply a_pickF rfl (by assumption)
  (conv => (lhs; whnf))
  apply r_op
  exact rfl
  exact rfl
  apply a_move
  (conv => (lhs; whnf))
  refine q_split rfl rfl rfl (fun hg => ?_) (fun hg => ?_)
  apply q_skip
  exact rfl
  exact want_f rfl rfl rfl (by assumption)
  apply q_skip
  exact rfl
  exact want_f rfl rfl rfl (by assumption)
  apply q_skip
  exact rfl
  exact want_f rfl rfl rfl (by assumption)
  apply r_op
  exact rfl
  exact rfl
  apply g_pick
  apply a_pickT rfl (by assumption)
  (conv => (lhs; whnf))
  apply r_op
  exact rfl
  exact rfl
  apply a_move
  (conv => (lhs; whnf))
  apply q_skip
  exact rfl
  exact want_f rfl rfl rfl (by exact rfl)
  apply q_skip
  exact rfl
  exact want_f rfl rfl rfl (by exact rfl)
  apply q_skip
  exact rfl
  exact want_f rfl rfl rfl (by exact rfl)
  apply r_op
  exact rfl
  exact rfl
  apply g_pick
  apply a_pickT rfl (by exact rfl)
  (conv => (lhs; whnf))
  with_reducible refine runs_done ?_
  refine W.condT rfl (by exact rfl) ?_
  refine W.seq ?_
  refine W.regionL (by decide +kernel) rfl ?_
  apply r_op
  exact rfl
  exact rfl
  apply a_assign
  (conv => (lhs; whnf))
  apply r_op
  exact rfl
  exact rfl
  apply a_assign
  (conv => (lhs; whnf))
  apply r_op
  exact rfl
  exact rfl
  apply a_assign
  (conv => (lhs; whnf))
  apply r_op
  exact rfl
  exact rfl
  apply a_assign
  (conv => (lhs; whnf))
  apply r_op
  exact rfl
  exact rfl
  apply a_assign
  (conv => (lhs; whnf))
  with_reducible refine runs_done ?_
  refine W.ret ?_
  show Q Exit.ret _ _
  refine post_q hQ (by apply res_tmp; exact rfl; apply res_tmp; exact rfl; apply res_tmp; exact rfl; apply res_tmp; exact rfl; apply res_tmp; exact rfl; exact res_nil) (.inl rfl) (by exact .refl _) ?_
  (conv => (lhs; whnf))
  rotate_left
  apply r_op
  exact rfl
  exact want_t rfl rfl rfl (by assumption)
  apply a_move
  (conv => (lhs; whnf))
  apply r_op
  exact rfl
  exact want_t rfl rfl rfl (by assumption)
  apply g_index
  exact a_indexS rfl rfl (by omega) (by assumption)
  apply r_op
  exact rfl
  exact want_t rfl rfl rfl (by assumption)
  apply g_binOp
  exact a_binI rfl rfl rfl
  apply r_op
  exact rfl
  exact rfl
  apply g_pick
  apply a_pickF rfl (by assumption)
  (conv => (lhs; whnf))
  apply r_op
  exact rfl
  exact rfl
  apply a_move
  (conv => (lhs; whnf))
  refine q_split rfl rfl rfl (fun hg => ?_) (fun hg => ?_)
  apply q_skip
  exact rfl
  exact want_f rfl rfl rfl (by assumption)
  apply q_skip
  exact rfl
  exact want_f rfl rfl rfl (by assumption)
  apply q_skip
  exact rfl
  exact want_f rfl rfl rfl (by assumption)
  apply r_op
  exact rfl
  exact rfl
  apply g_pick
  apply a_pickT rfl (by assumption)
  (conv => (lhs; whnf))
  with_reducible refine runs_done ?_
  refine W.condT rfl (by exact rfl) ?_
  refine W.seq ?_
  refine W.regionL (by decide +kernel) rfl ?_
  apply r_op
  exact rfl
  exact rfl
  apply a_assign
  (conv => (lhs; whnf))
  apply r_op
  exact rfl
  exact rfl
  apply a_assign
  (conv => (lhs; whnf))
  apply r_op
  exact rfl
  exact rfl
  apply a_assign
  (conv => (lhs; whnf))
  apply r_op
  exact rfl
  exact rfl
  apply a_assign
  (conv => (lhs; whnf))
  apply r_op
  exact rfl
  exact rfl
  apply a_assign
  (conv => (lhs; whnf))
  with_reducible refine runs_done ?_
  refine W.ret ?_
  show Q Exit.ret _ _
  refine post_q hQ (by apply res_tmp; exact rfl; apply res_tmp; exact rfl; apply res_tmp; exact rfl; apply res_tmp; exact rfl; apply res_tmp; exact rfl; exact res_nil) (.inl rfl) (by exact .refl _) ?_
  (conv => (lhs; whnf))
  rotate_left
  apply r_op
  exact rfl
  exact want_t rfl rfl rfl (by assumption)
  apply a_move
  (conv => (lhs; whnf))
  apply r_op
  exact rfl
  exact want_t rfl rfl rfl (by assumption)
  apply g_index
  exact a_indexS rfl rfl (by omega) (by assumption)
  apply r_op
  exact rfl
  exact want_t rfl rfl rfl (by assumption)
  apply g_binOp
  exact a_binI rfl rfl rfl
  apply r_op
  exact rfl
  exact rfl
  apply g_pick
  apply a_pickF rfl (by assumption)
  (conv => (lhs; whnf))
  with_reducible refine runs_done ?_
  refine W.cond rfl (fun hc => ?_) (fun hc => ?_)
  refine W.seq ?_
  refine W.regionL (by decide +kernel) rfl ?_
  apply r_op
  exact rfl
  exact rfl
  apply a_assign
  (conv => (lhs; whnf))
  apply r_op
  exact rfl
  exact rfl
  apply a_assign
  (conv => (lhs; whnf))
  apply r_op
  exact rfl
  exact rfl
  apply a_assign
  (conv => (lhs; whnf))
  apply r_op
  exact rfl
  exact rfl
  apply a_assign
  (conv => (lhs; whnf))
  apply r_op
  exact rfl
  exact rfl
  apply a_assign
  (conv => (lhs; whnf))
  with_reducible refine runs_done ?_
  refine W.ret ?_
  show Q Exit.ret _ _
  refine post_q hQ (by apply res_tmp; exact rfl; apply res_tmp; exact rfl; apply res_tmp; exact rfl; apply res_tmp; exact rfl; apply res_tmp; exact rfl; exact res_nil) (.inl rfl) (by exact .refl _) ?_
  (conv => (lhs; whnf))
  rotate_left
  refine W.skip ?_
  show W _ _ _ _ _ _ _
  refine W.seq ?_
  refine W.regionL (by decide +kernel) rfl ?_
  apply r_op
  exact rfl
  exact rfl
  apply a_move
  (conv => (lhs; whnf))
  apply r_op
  exact rfl
  exact rfl
  apply g_index
  exact a_indexS rfl rfl (by omega) (by assumption)
  apply r_op
  exact rfl
  exact rfl
  apply g_binOp
  exact a_u8sub rfl rfl
  apply r_op
  exact rfl
  exact rfl
  apply g_convert
  exact a_convI rfl
  apply r_op
  exact rfl
  exact rfl
  apply a_assign
  (conv => (lhs; whnf))
  with_reducible refine runs_done ?_
  refine W.seq ?_
  refine W.regionL (by decide +kernel) rfl ?_
  apply r_op
  exact rfl
  exact rfl
  apply a_move
  (conv => (lhs; whnf))
  apply r_op
  exact rfl
  exact rfl
  apply g_slice
  exact a_sliceS rfl rfl rfl (by omega)
  apply r_callP
  exact rfl
  exact rfl
  exact rfl
  exact rfl
  exact rfl
  infer_instance
  exact hA1
  apply r_op
  exact rfl
  exact rfl
  apply a_move
  (conv => (lhs; whnf))
  apply r_op
  exact rfl
  exact rfl
  apply g_extract
  exact a_extract rfl rfl
  apply r_op
  exact rfl
  exact rfl
  apply g_extract
  exact a_extract rfl rfl
  apply r_op
  exact rfl
  exact rfl
  apply a_assign
  (conv => (lhs; whnf))
  apply r_op
  exact rfl
  exact rfl
  apply a_assign
  (conv => (lhs; whnf))
  with_reducible refine runs_done ?_
  refine W.seq ?_
  refine W.regionL (by decide +kernel) rfl ?_
  apply r_op
  exact rfl
  exact rfl
  apply a_move
  (conv => (lhs; whnf))
  apply r_op
  exact rfl
  exact rfl
  apply g_slice
  exact a_sliceS rfl rfl rfl (by omega)
  apply r_callP
  exact rfl
  exact rfl
  exact rfl
  exact rfl
  exact rfl
  infer_instance
  exact hA2
  apply r_op
  exact rfl
  exact rfl
  apply a_move
  (conv => (lhs; whnf))
  apply r_op
  exact rfl
  exact rfl
  apply g_extract
  exact a_extract rfl rfl
  apply r_op
  exact rfl
  exact rfl
  apply g_extract
  exact a_extract rfl rfl
  apply r_op
  exact rfl
  exact rfl
  apply a_assign
  (conv => (lhs; whnf))
  apply r_op
  exact rfl
  exact rfl
  apply a_assign
  (conv => (lhs; whnf))
  with_reducible refine runs_done ?_
  refine W.seq ?_
  refine W.seq ?_
  refine W.regionL (by decide +kernel) rfl ?_
  apply r_op
  exact rfl
  exact rfl
  apply a_move
  (conv => (lhs; whnf))
  apply r_op
  exact rfl
  exact rfl
  apply g_binOp
  exact a_nilEn rfl rfl
  apply r_op
  exact rfl
  exact rfl
  apply a_move
  (conv => (lhs; whnf))
  refine q_split rfl rfl rfl (fun hg => ?_) (fun hg => ?_)
  apply q_skip
  exact rfl
  exact want_f rfl rfl rfl (by assumption)
  apply q_skip
  exact rfl
  exact want_f rfl rfl rfl (by assumption)
  apply r_op
  exact rfl
  exact rfl
  apply g_pick
  apply a_pickT rfl (by assumption)
  (conv => (lhs; whnf))
  apply r_op
  exact rfl
  exact rfl
  apply a_move
  (conv => (lhs; whnf))
  apply q_skip
  exact rfl
  exact want_f rfl rfl rfl (by exact rfl)
  apply q_skip
  exact rfl
  exact want_f rfl rfl rfl (by exact rfl)
  apply q_skip
  exact rfl
  exact want_f rfl rfl rfl (by exact rfl)
  apply q_skip
  exact rfl
  exact want_f rfl rfl rfl (by exact rfl)
  apply q_skip
  exact rfl
  exact want_f rfl rfl rfl (by exact rfl)
  apply q_skip
  exact rfl
  exact want_f rfl rfl rfl (by exact rfl)
  apply q_skip
  exact rfl
  exact want_f rfl rfl rfl (by exact rfl)
  apply q_skip
  exact rfl
  exact want_f rfl rfl rfl (by exact rfl)
  apply r_op
  exact rfl
  exact rfl
  apply g_pick
  apply a_pickT rfl (by exact rfl)
  (conv => (lhs; whnf))
  with_reducible refine runs_done ?_
  refine W.condT rfl (by exact rfl) ?_
  refine W.seq ?_
  refine W.regionL (by decide +kernel) rfl ?_
  apply r_op
  exact rfl
  exact rfl
  apply a_assign
  (conv => (lhs; whnf))
  apply r_op
  exact rfl
  exact rfl
  apply a_assign
  (conv => (lhs; whnf))
  apply r_op
  exact rfl
  exact rfl
  apply a_assign
  (conv => (lhs; whnf))
  apply r_op
  exact rfl
  exact rfl
  apply a_assign
  (conv => (lhs; whnf))
  apply r_op
  exact rfl
  exact rfl
  apply a_assign
  (conv => (lhs; whnf))
  with_reducible refine runs_done ?_
  refine W.ret ?_
  show Q Exit.ret _ _
  refine post_q hQ (by apply res_tmp; exact rfl; apply res_tmp; exact rfl; apply res_tmp; exact rfl; apply res_tmp; exact rfl; apply res_tmp; exact rfl; exact res_nil) (.inl rfl) (by exact .refl _) ?_
  (conv => (lhs; whnf))
  rotate_left
  apply r_op
  exact rfl
  exact want_t rfl rfl rfl (by assumption)
  apply a_move
  (conv => (lhs; whnf))
  apply r_op
  exact rfl
  exact want_t rfl rfl rfl (by assumption)
  apply g_binOp
  exact a_nilEn rfl rfl
  apply r_op
  exact rfl
  exact rfl
  apply g_pick
  apply a_pickF rfl (by assumption)
  (conv => (lhs; whnf))
  apply r_op
  exact rfl
  exact rfl
  apply a_move
  (conv => (lhs; whnf))
  refine q_split rfl rfl rfl (fun hg => ?_) (fun hg => ?_)
  apply q_skip
  exact rfl
  exact want_f rfl rfl rfl (by assumption)
  apply q_skip
  exact rfl
  exact want_f rfl rfl rfl (by assumption)
  apply q_skip
  exact rfl
  exact want_f rfl rfl rfl (by assumption)
  apply q_skip
  exact rfl
  exact want_f rfl rfl rfl (by assumption)
  apply q_skip
  exact rfl
  exact want_f rfl rfl rfl (by assumption)
  apply q_skip
  exact rfl
  exact want_f rfl rfl rfl (by assumption)
  apply q_skip
  exact rfl
  exact want_f rfl rfl rfl (by assumption)
  apply q_skip
  exact rfl
  exact want_f rfl rfl rfl (by assumption)
  apply r_op
  exact rfl
  exact rfl
  apply g_pick
  apply a_pickT rfl (by assumption)
  (conv => (lhs; whnf))
  with_reducible refine runs_done ?_
  refine W.condT rfl (by exact rfl) ?_
  refine W.seq ?_
  refine W.regionL (by decide +kernel) rfl ?_
  apply r_op
  exact rfl
  exact rfl
  apply a_assign
  (conv => (lhs; whnf))
  apply r_op
  exact rfl
  exact rfl
  apply a_assign
  (conv => (lhs; whnf))
  apply r_op
  exact rfl
  exact rfl
  apply a_assign
  (conv => (lhs; whnf))
  apply r_op
  exact rfl
  exact rfl
  apply a_assign
  (conv => (lhs; whnf))
  apply r_op
  exact rfl
  exact rfl
  apply a_assign
  (conv => (lhs; whnf))
  with_reducible refine runs_done ?_
  refine W.ret ?_
  show Q Exit.ret _ _
  refine post_q hQ (by apply res_tmp; exact rfl; apply res_tmp; exact rfl; apply res_tmp; exact rfl; apply res_tmp; exact rfl; apply res_tmp; exact rfl; exact res_nil) (.inl rfl) (by exact .refl _) ?_
  (conv => (lhs; whnf))
  rotate_left
  apply r_op
  exact rfl
  exact want_t rfl rfl rfl (by assumption)
  apply a_move
  (conv => (lhs; whnf))
  apply r_op
  exact rfl
  exact want_t rfl rfl rfl (by assumption)
  apply a_move
  (conv => (lhs; whnf))
  apply r_op
  exact rfl
  exact want_t rfl rfl rfl (by assumption)
  apply g_index
  exact a_indexS rfl rfl (by omega) (by assumption)
  apply r_op
  exact rfl
  exact want_t rfl rfl rfl (by assumption)
  apply a_move
  (conv => (lhs; whnf))
  apply r_op
  exact rfl
  exact want_t rfl rfl rfl (by assumption)
  apply a_move
  (conv => (lhs; whnf))
  apply r_callP
  exact rfl
  exact rfl
  exact want_t rfl rfl rfl (by assumption)
  exact rfl
  exact rfl
  infer_instance
  exact hK ⟨Int.ofNat_le.1 (Int.not_lt.1 (of_decide_eq_false (by assumption))), Int.ofNat_le.1 (Int.not_lt.1 (of_decide_eq_false (by assumption)))⟩
  apply r_op
  exact rfl
  exact want_t rfl rfl rfl (by assumption)
  apply a_move
  (conv => (lhs; whnf))
  apply r_op
  exact rfl
  exact want_t rfl rfl rfl (by assumption)
  apply g_binOp
  exact a_binS rfl rfl rfl rfl
  apply r_op
  exact rfl
  exact rfl
  apply g_pick
  apply a_pickF rfl (by assumption)
  (conv => (lhs; whnf))
  with_reducible refine runs_done ?_
  refine W.cond rfl (fun hc => ?_) (fun hc => ?_)
  refine W.seq ?_
  refine W.regionL (by decide +kernel) rfl ?_
  apply r_op
  exact rfl
  exact rfl
  apply a_assign
  (conv => (lhs; whnf))
  apply r_op
  exact rfl
  exact rfl
  apply a_assign
  (conv => (lhs; whnf))
  apply r_op
  exact rfl
  exact rfl
  apply a_assign
  (conv => (lhs; whnf))
  apply r_op
  exact rfl
  exact rfl
  apply a_assign
  (conv => (lhs; whnf))
  apply r_op
  exact rfl
  exact rfl
  apply a_assign
  (conv => (lhs; whnf))
  with_reducible refine runs_done ?_
  refine W.ret ?_
  show Q Exit.ret _ _
  refine post_q hQ (by apply res_tmp; exact rfl; apply res_tmp; exact rfl; apply res_tmp; exact rfl; apply res_tmp; exact rfl; apply res_tmp; exact rfl; exact res_nil) (.inl rfl) (by exact .refl _) ?_
  (conv => (lhs; whnf))
  rotate_left
  refine W.skip ?_
  show W _ _ _ _ _ _ _
  refine W.seq ?_
  refine W.regionDK 1 [] Ty.mixed (by decide +kernel) (by decide +kernel) rfl ?_
  apply r_op
  exact rfl
  exact rfl
  apply a_move
  (conv => (lhs; whnf))
  apply r_op
  exact rfl
  exact rfl
  apply a_move
  (conv => (lhs; whnf))
  apply r_op
  exact rfl
  exact rfl
  apply g_index
  exact a_indexS rfl rfl (by omega) (by assumption)
  apply r_op
  exact rfl
  exact rfl
  apply a_move
  (conv => (lhs; whnf))
  apply r_op
  exact rfl
  exact rfl
  apply a_move
  (conv => (lhs; whnf))
  apply r_op
  exact rfl
  exact rfl
  apply a_assign
  (conv => (lhs; whnf))
  apply r_op
  exact rfl
  exact rfl
  apply a_assign
  (conv => (lhs; whnf))
  apply r_op
  exact rfl
  exact rfl
  apply a_assign
  (conv => (lhs; whnf))
  apply r_op
  exact rfl
  exact rfl
  apply a_assign
  (conv => (lhs; whnf))
  apply r_op
  exact rfl
  exact rfl
  apply a_assign
  (conv => (lhs; whnf))
  with_reducible refine runs_done ?_
  refine W.ret ?_
  show Q Exit.ret _ _
  refine post_q hQ (by apply res_tmp; exact rfl; apply res_tmp; exact rfl; apply res_tmp; exact rfl; apply res_tmp; exact rfl; apply res_tmp; exact rfl; exact res_nil) (.inl rfl) (by exact .refl _) ?_
  (conv => (lhs; whnf))
  rotate_left
  · have hn : parts k = .none := by rw [hp, if_neg (fun h => by have := of_decide_eq_true hg; omega)]
    rw [hn]; rfl
  · have hn : parts k = .none := by rw [hp, if_neg (fun h => by have := of_decide_eq_true hg; omega)]
    rw [hn]; rfl
  · have hn : parts k = .none := by rw [hp, if_neg (fun h => by have := of_decide_eq_true hg; omega)]
    rw [hn]; rfl
  · have hn : parts k = .none := by rw [hp, if_neg (fun h => by have := of_decide_eq_true hc; omega)]
    rw [hn]; rfl
  · have hn : parts k = .none := by
      rw [hp]; split <;> first | rfl | (rw [if_neg]; intro h; rw [h.1] at hg; cases hg)
    rw [hn]; rfl
  · have hn : parts k = .none := by
      rw [hp]; split <;> first | rfl | (rw [if_neg]; intro h; rw [h.2.1] at hg; cases hg)
    rw [hn]; rfl
  · have hn : parts k = .none := by
      rw [hp]; split <;> first | rfl | (rw [if_neg]; intro h; simp [h.2.2] at hc)
    rw [hn]; rfl
  · have h48 : 48 ≤ c0.toNat ∧ c0.toNat ≤ 57 := ⟨Int.ofNat_le.1 (Int.not_lt.1 (of_decide_eq_false (by assumption))), Int.ofNat_le.1 (Int.not_lt.1 (of_decide_eq_false (by assumption)))⟩
    have h97 : 97 ≤ t.toNat ∧ t.toNat ≤ 122 := ⟨Int.ofNat_le.1 (Int.not_lt.1 (of_decide_eq_false (by assumption))), Int.ofNat_le.1 (Int.not_lt.1 (of_decide_eq_false (by assumption)))⟩
    have hba : ba = true := by simpa using ‹(!ba) = false›
    have hbb : bb = true := by simpa using ‹(!bb) = false›
    have hn : parts k = ⟨c0.toNat - 48, t, a, b, true⟩ := by
      rw [hp, if_pos ⟨h0, h48, h97⟩, if_pos ⟨hba, hbb, by simpa using hc⟩]
    rw [hn, ePts, ← sub48 h48]; rfl
theorem partsR_any (w0 : World) (hL : Laid w0) (k : List UInt8) (hk : k.length ≤ 1000000) : CallP Tryd.prog w0 21 [.str k] (ePts (parts k)) := by
  rw [← partsR_eq]
  refine CallP.start Tryd.func21 rfl Tryd.ntmps21 (by simp) fun σ Q hQ => ?_
  by_cases h0 : ¬ k.length = 22
  · have d0 : (!decide (((k.length : Nat) : Int) = 22)) = true := by simp; omega
    rw [partsR, if_neg (fun h => h0 h.1)] at hQ
    refine W.seq ?_
    refine W.regionL (by decide +kernel) rfl ?_
    apply r_op
    exact rfl
    exact rfl
    apply a_assign
    (conv => (lhs; whnf))
    apply r_op
    exact rfl
    exact rfl
    apply a_assign
    (conv => (lhs; whnf))
    apply r_op
    exact rfl
    exact rfl
    apply a_assign
    (conv => (lhs; whnf))
    apply r_op
    exact rfl
    exact rfl
    apply a_assign
    (conv => (lhs; whnf))
    apply r_op
    exact rfl
    exact rfl
    apply a_assign
    (conv => (lhs; whnf))
    with_reducible refine runs_done ?_
    refine W.seq ?_
    refine W.seq ?_
    refine W.regionL (by decide +kernel) rfl ?_
    apply r_op
    exact rfl
    exact rfl
    apply a_move
    (conv => (lhs; whnf))
    apply r_op
    exact rfl
    exact rfl
    apply g_call
    exact a_len_str rfl
    apply r_op
    exact rfl
    exact rfl
    apply g_binOp
    exact a_binI rfl rfl rfl
    apply r_op
    exact rfl
    exact rfl
    apply a_move
    (conv => (lhs; whnf))
    apply q_skip
    exact rfl
    exact want_f rfl rfl rfl (by assumption)
    apply q_skip
    exact rfl
    exact want_f rfl rfl rfl (by assumption)
    apply q_skip
    exact rfl
    exact want_f rfl rfl rfl (by assumption)
    apply r_op
    exact rfl
    exact rfl
    apply g_pick
    apply a_pickT rfl (by assumption)
    (conv => (lhs; whnf))
    apply r_op
    exact rfl
    exact rfl
    apply a_move
    (conv => (lhs; whnf))
    apply q_skip
    exact rfl
    exact want_f rfl rfl rfl (by exact rfl)
    apply q_skip
    exact rfl
    exact want_f rfl rfl rfl (by exact rfl)
    apply q_skip
    exact rfl
    exact want_f rfl rfl rfl (by exact rfl)
    apply r_op
    exact rfl
    exact rfl
    apply g_pick
    apply a_pickT rfl (by exact rfl)
    (conv => (lhs; whnf))
    with_reducible refine runs_done ?_
    refine W.condT rfl (by exact rfl) ?_
    refine W.seq ?_
    refine W.regionL (by decide +kernel) rfl ?_
    apply r_op
    exact rfl
    exact rfl
    apply a_assign
    (conv => (lhs; whnf))
    apply r_op
    exact rfl
    exact rfl
    apply a_assign
    (conv => (lhs; whnf))
    apply r_op
    exact rfl
    exact rfl
    apply a_assign
    (conv => (lhs; whnf))
    apply r_op
    exact rfl
    exact rfl
    apply a_assign
    (conv => (lhs; whnf))
    apply r_op
    exact rfl
    exact rfl
    apply a_assign
    (conv => (lhs; whnf))
    with_reducible refine runs_done ?_
    refine W.ret ?_
    show Q Exit.ret _ _
    refine post_q hQ (by apply res_tmp; exact rfl; apply res_tmp; exact rfl; apply res_tmp; exact rfl; apply res_tmp; exact rfl; apply res_tmp; exact rfl; exact res_nil) (.inl rfl) (by exact .refl _) ?_
    (conv => (lhs; whnf))
    rfl
  have h0 := Decidable.of_not_not h0
  have d0 : (!decide (((k.length : Nat) : Int) = 22)) = false := by simp [h0]
  have g1 : k[(1 : Int).toNat]? = some (k.getD 1 0) := getD_get (by omega)
  have hA0 := goAtoi_any w0 hL ((k.take (1 : Int).toNat).drop (0 : Int).toNat) (by simp; omega)
  have hA1 := goAtoi_any w0 hL ((k.take (12 : Int).toNat).drop (2 : Int).toNat) (by simp; omega)
  have hA2 := goAtoi_any w0 hL ((k.take ((k.length : Nat) : Int).toNat).drop (12 : Int).toNat) (by simp; omega)
  have e0 : k.take 1 = (k.take (1 : Int).toNat).drop (0 : Int).toNat := rfl
  have e1 : (k.take 12).drop 2 = (k.take (12 : Int).toNat).drop (2 : Int).toNat := rfl
  have e2 : k.drop 12 = (k.take ((k.length : Nat) : Int).toNat).drop (12 : Int).toNat := by rw [Int.toNat_natCast, List.take_length]; rfl
  have hp : partsR k = if k.length = 22 ∧ (97 ≤ (k.getD 1 0).toNat ∧ (k.getD 1 0).toNat ≤ 122) then _ else _ := rfl
  rw [e0, e1, e2] at hp
  generalize k.getD 1 0 = t at g1 hp
  obtain ⟨n, hn, en, _⟩ : ∃ n : Nat, n < 10 ∧ (goAtoi ((k.take (1 : Int).toNat).drop (0 : Int).toNat)).1 = n ∧ True := by
    cases k with
    | nil => simp at h0
    | cons c k' =>
      obtain ⟨n, h1, h2, _⟩ := digit0 [] c
      exact ⟨n, h1, h2, trivial⟩
  generalize goAtoi ((k.take (1 : Int).toNat).drop (0 : Int).toNat) = A0 at hA0 hp en
  generalize goAtoi ((k.take (12 : Int).toNat).drop (2 : Int).toNat) = A1 at hA1 hp
  generalize goAtoi ((k.take ((k.length : Nat) : Int).toNat).drop (12 : Int).toNat) = A2 at hA2 hp
  obtain ⟨v, bv⟩ := A0
  obtain ⟨a, ba⟩ := A1
  obtain ⟨b, bb⟩ := A2
  dsimp only at hA0 hA1 hA2 hp en
  subst en
  rw [Int.toNat_natCast] at hp
  have hK := keyR_any w0 hL n hn t a b
  have dn : decide (((n : Nat) : Int) < 0) = false := decide_eq_false (by omega)
  clear e0 e1 e2
  refine W.seq ?_
  refine W.regionL (by decide +kernel) rfl ?_
  apply r_op
  exact rfl
  exact rfl
  apply a_assign
  (conv => (lhs; whnf))
  apply r_op
  exact rfl
  exact rfl
  apply a_assign
  (conv => (lhs; whnf))
  apply r_op
  exact rfl
  exact rfl
  apply a_assign
  (conv => (lhs; whnf))
  apply r_op
  exact rfl
  exact rfl
  apply a_assign
  (conv => (lhs; whnf))
  apply r_op
  exact rfl
  exact rfl
  apply a_assign
  (conv => (lhs; whnf))
  with_reducible refine runs_done ?_
  refine W.seq ?_
  refine W.seq ?_
  refine W.regionL (by decide +kernel) rfl ?_
  apply r_op
  exact rfl
  exact rfl
  apply a_move
  (conv => (lhs; whnf))
  apply r_op
  exact rfl
  exact rfl
  apply g_call
  exact a_len_str rfl
  apply r_op
  exact rfl
  exact rfl
  apply g_binOp
  exact a_binI rfl rfl rfl
  apply r_op
  exact rfl
  exact rfl
  apply a_move
  (conv => (lhs; whnf))
  apply r_op
  exact rfl
  exact want_t rfl rfl rfl (by assumption)
  apply a_move
  (conv => (lhs; whnf))
  apply r_op
  exact rfl
  exact want_t rfl rfl rfl (by assumption)
  apply g_index
  exact a_indexS rfl rfl (by omega) (by assumption)
  apply r_op
  exact rfl
  exact want_t rfl rfl rfl (by assumption)
  apply g_binOp
  exact a_binI rfl rfl rfl
  apply r_op
  exact rfl
  exact rfl
  apply g_pick
  apply a_pickF rfl (by assumption)
  (conv => (lhs; whnf))
  apply r_op
  exact rfl
  exact rfl
  apply a_move
  (conv => (lhs; whnf))
  refine q_split rfl rfl rfl (fun hg => ?_) (fun hg => ?_)
  apply q_skip
  exact rfl
  exact want_f rfl rfl rfl (by assumption)
  apply q_skip
  exact rfl
  exact want_f rfl rfl rfl (by assumption)
  apply q_skip
  exact rfl
  exact want_f rfl rfl rfl (by assumption)
  apply r_op
  exact rfl
  exact rfl
  apply g_pick
  apply a_pickT rfl (by assumption)
  (conv => (lhs; whnf))
  with_reducible refine runs_done ?_
  refine W.condT rfl (by exact rfl) ?_
  refine W.seq ?_
  refine W.regionL (by decide +kernel) rfl ?_
  apply r_op
  exact rfl
  exact rfl
  apply a_assign
  (conv => (lhs; whnf))
  apply r_op
  exact rfl
  exact rfl
  apply a_assign
  (conv => (lhs; whnf))
  apply r_op
  exact rfl
  exact rfl
  apply a_assign
  (conv => (lhs; whnf))
  apply r_op
  exact rfl
  exact rfl
  apply a_assign
  (conv => (lhs; whnf))
  apply r_op
  exact rfl
  exact rfl
  apply a_assign
  (conv => (lhs; whnf))
  with_reducible refine runs_done ?_
  refine W.ret ?_
  show Q Exit.ret _ _
  refine post_q hQ (by apply res_tmp; exact rfl; apply res_tmp; exact rfl; apply res_tmp; exact rfl; apply res_tmp; exact rfl; apply res_tmp; exact rfl; exact res_nil) (.inl rfl) (by exact .refl _) ?_
  (conv => (lhs; whnf))
  rotate_left
  apply r_op
  exact rfl
  exact want_t rfl rfl rfl (by assumption)
  apply a_move
  (conv => (lhs; whnf))
  apply r_op
  exact rfl
  exact want_t rfl rfl rfl (by assumption)
  apply g_index
  exact a_indexS rfl rfl (by omega) (by assumption)
  apply r_op
  exact rfl
  exact want_t rfl rfl rfl (by assumption)
  apply g_binOp
  exact a_binI rfl rfl rfl
  apply r_op
  exact rfl
  exact rfl
  apply g_pick
  apply a_pickF rfl (by assumption)
  (conv => (lhs; whnf))
  with_reducible refine runs_done ?_
  refine W.cond rfl (fun hc => ?_) (fun hc => ?_)
  refine W.seq ?_
  refine W.regionL (by decide +kernel) rfl ?_
  apply r_op
  exact rfl
  exact rfl
  apply a_assign
  (conv => (lhs; whnf))
  apply r_op
  exact rfl
  exact rfl
  apply a_assign
  (conv => (lhs; whnf))
  apply r_op
  exact rfl
  exact rfl
  apply a_assign
  (conv => (lhs; whnf))
  apply r_op
  exact rfl
  exact rfl
  apply a_assign
  (conv => (lhs; whnf))
  apply r_op
  exact rfl
  exact rfl
  apply a_assign
  (conv => (lhs; whnf))
  with_reducible refine runs_done ?_
  refine W.ret ?_
  show Q Exit.ret _ _
  refine post_q hQ (by apply res_tmp; exact rfl; apply res_tmp; exact rfl; apply res_tmp; exact rfl; apply res_tmp; exact rfl; apply res_tmp; exact rfl; exact res_nil) (.inl rfl) (by exact .refl _) ?_
  (conv => (lhs; whnf))
  rotate_left
  refine W.skip ?_
  show W _ _ _ _ _ _ _
  refine W.seq ?_
  refine W.regionL (by decide +kernel) rfl ?_
  apply r_op
  exact rfl
  exact rfl
  apply a_move
  (conv => (lhs; whnf))
  apply r_op
  exact rfl
  exact rfl
  apply g_slice
  exact a_sliceS rfl rfl rfl (by omega)
  apply r_callP
  exact rfl
  exact rfl
  exact rfl
  exact rfl
  exact rfl
  infer_instance
  exact hA0
  apply r_op
  exact rfl
  exact rfl
  apply a_move
  (conv => (lhs; whnf))
  apply r_op
  exact rfl
  exact rfl
  apply g_extract
  exact a_extract rfl rfl
  apply r_op
  exact rfl
  exact rfl
  apply g_extract
  exact a_extract rfl rfl
  apply r_op
  exact rfl
  exact rfl
  apply a_assign
  (conv => (lhs; whnf))
  apply r_op
  exact rfl
  exact rfl
  apply a_assign
  (conv => (lhs; whnf))
  with_reducible refine runs_done ?_
  refine W.seq ?_
  refine W.regionL (by decide +kernel) rfl ?_
  apply r_op
  exact rfl
  exact rfl
  apply a_move
  (conv => (lhs; whnf))
  apply r_op
  exact rfl
  exact rfl
  apply g_slice
  exact a_sliceS rfl rfl rfl (by omega)
  apply r_callP
  exact rfl
  exact rfl
  exact rfl
  exact rfl
  exact rfl
  infer_instance
  exact hA1
  apply r_op
  exact rfl
  exact rfl
  apply a_move
  (conv => (lhs; whnf))
  apply r_op
  exact rfl
  exact rfl
  apply g_extract
  exact a_extract rfl rfl
  apply r_op
  exact rfl
  exact rfl
  apply g_extract
  exact a_extract rfl rfl
  apply r_op
  exact rfl
  exact rfl
  apply a_assign
  (conv => (lhs; whnf))
  apply r_op
  exact rfl
  exact rfl
  apply a_assign
  (conv => (lhs; whnf))
  with_reducible refine runs_done ?_
  refine W.seq ?_
  refine W.regionL (by decide +kernel) rfl ?_
  apply r_op
  exact rfl
  exact rfl
  apply a_move
  (conv => (lhs; whnf))
  apply r_op
  exact rfl
  exact rfl
  apply g_slice
  exact a_sliceS rfl rfl rfl (by omega)
  apply r_callP
  exact rfl
  exact rfl
  exact rfl
  exact rfl
  exact rfl
  infer_instance
  exact hA2
  apply r_op
  exact rfl
  exact rfl
  apply a_move
  (conv => (lhs; whnf))
  apply r_op
  exact rfl
  exact rfl
  apply g_extract
  exact a_extract rfl rfl
  apply r_op
  exact rfl
  exact rfl
  apply g_extract
  exact a_extract rfl rfl
  apply r_op
  exact rfl
  exact rfl
  apply a_assign
  (conv => (lhs; whnf))
  apply r_op
  exact rfl
  exact rfl
  apply a_assign
  (conv => (lhs; whnf))
  with_reducible refine runs_done ?_
  refine W.seq ?_
  refine W.seq ?_
  refine W.regionL (by decide +kernel) rfl ?_
  apply r_op
  exact rfl
  exact rfl
  apply a_move
  (conv => (lhs; whnf))
  apply r_op
  exact rfl
  exact rfl
  apply g_binOp
  exact a_binI rfl rfl rfl
  apply r_op
  exact rfl
  exact rfl
  apply a_move
  (conv => (lhs; whnf))
  apply r_op
  exact rfl
  exact rfl
  apply a_move
  (conv => (lhs; whnf))
  apply r_op
  exact rfl
  exact rfl
  apply a_move
  (conv => (lhs; whnf))
  apply r_op
  exact rfl
  exact rfl
  apply g_index
  exact a_indexS rfl rfl (by omega) (by assumption)
  apply r_op
  exact rfl
  exact rfl
  apply a_move
  (conv => (lhs; whnf))
  apply r_op
  exact rfl
  exact rfl
  apply a_move
  (conv => (lhs; whnf))
  apply r_callP
  exact rfl
  exact rfl
  exact rfl
  exact rfl
  exact rfl
  infer_instance
  exact hK
  apply r_op
  exact rfl
  exact rfl
  apply a_move
  (conv => (lhs; whnf))
  apply r_op
  exact rfl
  exact rfl
  apply g_binOp
  exact a_binS rfl rfl rfl rfl
  apply r_op
  exact rfl
  exact rfl
  apply g_pick
  apply a_pickF rfl (by exact rfl)
  (conv => (lhs; whnf))
  with_reducible refine runs_done ?_
  refine W.cond rfl (fun hc => ?_) (fun hc => ?_)
  refine W.seq ?_
  refine W.regionL (by decide +kernel) rfl ?_
  apply r_op
  exact rfl
  exact rfl
  apply a_assign
  (conv => (lhs; whnf))
  apply r_op
  exact rfl
  exact rfl
  apply a_assign
  (conv => (lhs; whnf))
  apply r_op
  exact rfl
  exact rfl
  apply a_assign
  (conv => (lhs; whnf))
  apply r_op
  exact rfl
  exact rfl
  apply a_assign
  (conv => (lhs; whnf))
  apply r_op
  exact rfl
  exact rfl
  apply a_assign
  (conv => (lhs; whnf))
  with_reducible refine runs_done ?_
  refine W.ret ?_
  show Q Exit.ret _ _
  refine post_q hQ (by apply res_tmp; exact rfl; apply res_tmp; exact rfl; apply res_tmp; exact rfl; apply res_tmp; exact rfl; apply res_tmp; exact rfl; exact res_nil) (.inl rfl) (by exact .refl _) ?_
  (conv => (lhs; whnf))
  rotate_left
  refine W.skip ?_
  show W _ _ _ _ _ _ _
  refine W.seq ?_
  refine W.regionDK 1 [] Ty.mixed (by decide +kernel) (by decide +kernel) rfl ?_
  apply r_op
  exact rfl
  exact rfl
  apply a_move
  (conv => (lhs; whnf))
  apply r_op
  exact rfl
  exact rfl
  apply a_move
  (conv => (lhs; whnf))
  apply r_op
  exact rfl
  exact rfl
  apply g_index
  exact a_indexS rfl rfl (by omega) (by assumption)
  apply r_op
  exact rfl
  exact rfl
  apply a_move
  (conv => (lhs; whnf))
  apply r_op
  exact rfl
  exact rfl
  apply a_move
  (conv => (lhs; whnf))
  apply r_op
  exact rfl
  exact rfl
  apply a_assign
  (conv => (lhs; whnf))
  apply r_op
  exact rfl
  exact rfl
  apply a_assign
  (conv => (lhs; whnf))
  apply r_op
  exact rfl
  exact rfl
  apply a_assign
  (conv => (lhs; whnf))
  apply r_op
  exact rfl
  exact rfl
  apply a_assign
  (conv => (lhs; whnf))
  apply r_op
  exact rfl
  exact rfl
  apply a_assign
  (conv => (lhs; whnf))
  with_reducible refine runs_done ?_
  refine W.ret ?_
  show Q Exit.ret _ _
  refine post_q hQ (by apply res_tmp; exact rfl; apply res_tmp; exact rfl; apply res_tmp; exact rfl; apply res_tmp; exact rfl; apply res_tmp; exact rfl; exact res_nil) (.inl rfl) (by exact .refl _) ?_
  (conv => (lhs; whnf))
  rotate_left
  · have hx : partsR k = .none := by rw [hp, if_neg (fun h => by have := of_decide_eq_true hg; omega)]
    rw [hx]; rfl
  · have hx : partsR k = .none := by rw [hp, if_neg (fun h => by have := of_decide_eq_true hc; omega)]
    rw [hx]; rfl
  · have hx : partsR k = .none := by
      rw [hp]; split <;> first | rfl | (rw [if_neg]; intro h; simp [h] at hc)
    rw [hx]; rfl
  · have h97 : 97 ≤ t.toNat ∧ t.toNat ≤ 122 := ⟨Int.ofNat_le.1 (Int.not_lt.1 (of_decide_eq_false (by assumption))), Int.ofNat_le.1 (Int.not_lt.1 (of_decide_eq_false (by assumption)))⟩
    have hx : partsR k = ⟨n, t, a, b, true⟩ := by
      rw [hp, if_pos ⟨h0, h97⟩, if_pos (by simpa using hc)]
    rw [hx]; rfl
end Go.Proofs.YtkbmkhhcppfcnaaDoor
end
section
set_option linter.unusedVariables false
set_option linter.unusedSimpArgs false
set_option maxRecDepth 100000
set_option maxHeartbeats 2000000
namespace Go.Proofs.YtkbmkhhcppfcnaaDoor
open Go.Al Go.RowKit
theorem enc3_long (x : Sub) : 1 + x.queue.length ≤ (enc3 x).length := by
  rw [enc3_eq]; simp; omega
theorem threeKeys_any (w0 : World) (hL : Laid w0) (c : List UInt8) (t : Tok) (k : UInt8) (hc : c.length ≤ 9223372036854775807) (σ : St) : CallW Tryd.prog w0 5 [.slc 1 (aBytes c) t, .int .u8 k.toNat] σ (fun r _ => r = .bool true) := by
  refine CallW.start Tryd.func5 rfl Tryd.ntmps5 (by simp) fun Q hQ => ?_
  have hk := k.toNat_lt
  refine W.seq ?_
  refine W.regionL (by decide +kernel) rfl ?_
  apply r_op
  exact rfl
  exact rfl
  apply a_assign
  (conv => (lhs; whnf))
  refine runs_done ?_
  show W _ _ _ _ _ _ _
  refine W.seq ?_
  refine W.regionL (by decide +kernel) rfl ?_
  apply r_op
  exact rfl
  exact rfl
  apply a_move
  (conv => (lhs; whnf))
  apply r_op
  exact rfl
  exact rfl
  apply a_move
  (conv => (lhs; whnf))
  apply r_callX
  exact rfl
  exact rfl
  decide
  exact rfl
  exact rfl
  exact rfl
  infer_instance
  exact lawsub_any w0 c t k hc _
  rintro x1 σ1 ⟨hx1, rfl⟩
  apply r_alloc
  exact rfl
  exact rfl
  decide
  exact rfl
  (conv => (lhs; whnf))
  intro b1 hb1
  apply r_store
  exact rfl
  exact rfl
  exact rfl
  decide
  infer_instance
  exact rfl
  exact setBox_same
  (conv => (lhs; whnf))
  exact rfl
  (conv => (lhs; whnf))
  exact rfl
  exact of_decide_eq_true rfl
  exact setL_whole rfl
  refine runs_done ?_
  show W _ _ _ _ _ _ _
  refine W.freeze1 5 (eSub x1) (by assumption) rfl rfl rfl ?_
  have hfx := (show Grown (1 + k.toNat) 9 (2 + k.toNat) x1 from hx1).fits
  have hid : ((cl x1.id : Nat) : Int) = x1.id := cl_nn (by have := hx1.id; omega)
  have hup := enc3_up hx1 (by omega)
  have hrow := fun r hr => enc3_row (r := r) hx1 (by omega) hr
  have hlen := enc3_len x1 hfx
  have hlong := enc3_long x1
  have henc := encW_p w0 hL x1 hfx
  generalize enc3 x1 = l at hup hrow hlen hlong henc
  refine W.seq ?_
  refine W.regionL (by decide +kernel) rfl ?_
  apply r_op
  exact rfl
  exact rfl
  apply g_load
  exact a_loadA rfl (by rfl) rfl
  apply r_callP
  exact rfl
  exact rfl
  exact rfl
  exact rfl
  exact rfl
  infer_instance
  exact henc
  apply r_op
  exact rfl
  exact rfl
  apply a_assign
  (conv => (lhs; whnf))
  refine runs_done ?_
  show W _ _ _ _ _ _ _
  refine W.seq ?_
  refine W.meet (fun E s => Has [(5, .vp (eSub x1)), (6, .slc 2 (l.map eRow) .no)] E) ?_ ?_
  · refine W.seq ?_
    refine W.regionL (by decide +kernel) rfl ?_
    apply r_op
    exact rfl
    exact rfl
    apply a_assign
    (conv => (lhs; whnf))
    with_reducible refine runs_done ?_
    refine W.block ?_
    refine W.loop (fun n E s => ∃ i : Nat, i ≤ l.length ∧ n = l.length - i ∧ Has [(5, .vp (eSub x1)), (6, .slc 2 (l.map eRow) .no), (7, .int .i64 i)] E) l.length ⟨0, Nat.zero_le _, rfl, by exact Has.by (by repeat (first | exact trivial | refine ⟨by first | trivial | exact Weak.refl _ | exact Weak.tok _ _ _ | exact Weak.of_eq (congrArg (AV.int _) (by omega)) | exact Weak.of_eq (congrArg AV.bool (by fail)) | exact Weak.nils _ _ (.inr rfl), ?_⟩))⟩ ?_
    rintro n E s ⟨i, hi, rfl, hE⟩
    refine W.has hE ?_
    clear hE
    refine W.seq ?_
    refine W.seq ?_
    refine W.regionL (by decide +kernel) rfl ?_
    apply r_op
    exact rfl
    exact rfl
    apply a_move
    (conv => (lhs; whnf))
    apply r_op
    exact rfl
    exact rfl
    apply a_move
    (conv => (lhs; whnf))
    apply r_op
    exact rfl
    exact rfl
    apply g_call
    exact a_len_slc rfl
    apply r_op
    exact rfl
    exact rfl
    apply g_binOp
    exact a_binI rfl rfl rfl
    with_reducible refine runs_done ?_
    refine W.cond rfl (fun hc => ?_) (fun hc => ?_)
    · have hlt : i < l.length := by simp at hc; omega
      have ga : l[i]? = some l[i] := by simp [hlt]
      obtain ⟨⟨u, seq, hu, hkey⟩, hval⟩ := hrow l[i] (List.getElem_mem hlt)
      have hp := partsR_any w0 hL l[i].key (by rw [hkey, rkey_length]; decide)
      rw [hkey, parts_rkey (by decide) hu, ePts, hid] at hp
      have hprev : ¬ i = 0 → ∃ pv, l[((i : Int) - 1).toNat]? = some pv ∧ (ltS l[i].key pv.key || decide (l[i].key = pv.key)) = false := fun h0 => by
        obtain ⟨j, rfl⟩ : ∃ j, i = j + 1 := ⟨i - 1, by omega⟩
        have gj : l[j]? = some (l[j]'(by omega)) := by simp
        refine ⟨l[j]'(by omega), by rw [show (((j + 1 : Nat) : Int) - 1).toNat = j by omega]; exact gj, ltS_not_le (hup.get gj ga)⟩
      rw [hkey] at hprev
      have d1 : (!decide (x1.id = x1.id)) = false := by simp
      have d2 : decide ((150 : Int) < ((aBytes l[i].val).length : Int)) = false := decide_eq_false (by rw [length_aBytes]; omega)
      generalize l[i] = r at ga hkey hval hp hprev d2
      rw [← hkey] at hp hprev
      clear hkey hval hc hu
      by_cases h0 : i = 0
      · subst h0
        have d3 : decide ((0 : Int) < ((0 : Nat) : Int)) = false := rfl
        refine W.skip ?_
        show W _ _ _ _ _ _ _
        refine W.seq ?_
        refine W.block ?_
        refine W.seq ?_
        refine W.regionL (by decide +kernel) rfl ?_
        apply r_op
        exact rfl
        exact rfl
        apply a_move
        (conv => (lhs; whnf))
        apply r_op
        exact rfl
        exact rfl
        apply a_move
        (conv => (lhs; whnf))
        apply r_op
        exact rfl
        exact rfl
        apply g_indexAddr
        exact a_indexAddr rfl rfl (by decide) (by omega) (by exact get_map ga)
        apply r_op
        exact rfl
        exact rfl
        apply g_fieldAddr
        exact a_fieldAddr1 rfl (by decide) rfl
        apply r_op
        exact rfl
        exact rfl
        apply g_load
        exact a_load1 rfl rfl
        apply r_callP
        exact rfl
        exact rfl
        exact rfl
        exact rfl
        exact rfl
        infer_instance
        exact hp
        apply r_op
        exact rfl
        exact rfl
        apply a_move
        (conv => (lhs; whnf))
        apply r_op
        exact rfl
        exact rfl
        apply g_extract
        exact a_extract rfl rfl
        apply r_op
        exact rfl
        exact rfl
        apply g_extract
        exact a_extract rfl rfl
        apply r_op
        exact rfl
        exact rfl
        apply g_extract
        exact a_extract rfl rfl
        apply r_op
        exact rfl
        exact rfl
        apply g_extract
        exact a_extract rfl rfl
        apply r_op
        exact rfl
        exact rfl
        apply g_extract
        exact a_extract rfl rfl
        apply r_op
        exact rfl
        exact rfl
        apply a_assign
        (conv => (lhs; whnf))
        apply r_op
        exact rfl
        exact rfl
        apply a_assign
        (conv => (lhs; whnf))
        apply r_op
        exact rfl
        exact rfl
        apply a_assign
        (conv => (lhs; whnf))
        apply r_op
        exact rfl
        exact rfl
        apply a_assign
        (conv => (lhs; whnf))
        apply r_op
        exact rfl
        exact rfl
        apply a_assign
        (conv => (lhs; whnf))
        with_reducible refine runs_done ?_
        refine W.seq ?_
        refine W.regionDK 1 [] Ty.mixed (by decide +kernel) (by decide +kernel) rfl ?_
        apply r_op
        exact rfl
        exact rfl
        apply a_move
        (conv => (lhs; whnf))
        apply r_op
        exact rfl
        exact rfl
        apply g_unOp
        exact a_not rfl
        apply r_op
        exact rfl
        exact rfl
        apply a_move
        (conv => (lhs; whnf))
        apply r_op
        exact rfl
        exact rfl
        apply a_move
        (conv => (lhs; whnf))
        apply r_op
        exact rfl
        exact rfl
        apply g_binOp
        exact a_binI rfl rfl rfl
        apply r_op
        exact rfl
        exact rfl
        apply g_pick
        apply a_pickF rfl (by exact rfl)
        (conv => (lhs; whnf))
        apply r_op
        exact rfl
        exact rfl
        apply a_move
        (conv => (lhs; whnf))
        apply r_op
        exact rfl
        exact rfl
        apply a_move
        (conv => (lhs; whnf))
        apply r_op
        exact rfl
        exact rfl
        apply g_fieldAddr
        exact a_fieldAddr1 rfl (by decide) rfl
        apply r_op
        exact rfl
        exact rfl
        apply g_load
        exact a_load1 rfl rfl
        apply r_op
        exact rfl
        exact rfl
        apply g_binOp
        exact a_binI rfl rfl rfl
        apply r_op
        exact rfl
        exact rfl
        apply g_pick
        apply a_pickF rfl (by exact rfl)
        (conv => (lhs; whnf))
        apply r_op
        exact rfl
        exact rfl
        apply a_move
        (conv => (lhs; whnf))
        apply r_op
        exact rfl
        exact want_t rfl rfl rfl (by assumption)
        apply a_move
        (conv => (lhs; whnf))
        apply r_op
        exact rfl
        exact want_t rfl rfl rfl (by assumption)
        apply a_move
        (conv => (lhs; whnf))
        apply r_op
        exact rfl
        exact want_t rfl rfl rfl (by assumption)
        apply g_indexAddr
        exact a_indexAddr rfl rfl (by decide) (by omega) (by exact get_map ga)
        apply r_op
        exact rfl
        exact want_t rfl rfl rfl (by assumption)
        apply g_fieldAddr
        exact a_fieldAddr1 rfl (by decide) rfl
        apply r_op
        exact rfl
        exact want_t rfl rfl rfl (by assumption)
        apply g_load
        exact a_load1 rfl rfl
        apply r_op
        exact rfl
        exact want_t rfl rfl rfl (by assumption)
        apply g_call
        exact a_len_slc rfl
        apply r_op
        exact rfl
        exact want_t rfl rfl rfl (by assumption)
        apply g_binOp
        exact a_binI rfl rfl rfl
        apply r_op
        exact rfl
        exact rfl
        apply g_pick
        apply a_pickF rfl (by assumption)
        (conv => (lhs; whnf))
        apply r_op
        exact rfl
        exact rfl
        apply a_move
        (conv => (lhs; whnf))
        apply r_op
        exact rfl
        exact want_t rfl rfl rfl (by assumption)
        apply a_move
        (conv => (lhs; whnf))
        apply r_op
        exact rfl
        exact want_t rfl rfl rfl (by assumption)
        apply g_binOp
        exact a_binI rfl rfl rfl
        apply r_op
        exact rfl
        exact want_t rfl rfl rfl (by assumption)
        apply a_move
        (conv => (lhs; whnf))
        apply q_skip
        exact rfl
        exact want_f rfl rfl rfl (by exact rfl)
        apply q_skip
        exact rfl
        exact want_f rfl rfl rfl (by exact rfl)
        apply q_skip
        exact rfl
        exact want_f rfl rfl rfl (by exact rfl)
        apply q_skip
        exact rfl
        exact want_f rfl rfl rfl (by exact rfl)
        apply q_skip
        exact rfl
        exact want_f rfl rfl rfl (by exact rfl)
        apply q_skip
        exact rfl
        exact want_f rfl rfl rfl (by exact rfl)
        apply q_skip
        exact rfl
        exact want_f rfl rfl rfl (by exact rfl)
        apply q_skip
        exact rfl
        exact want_f rfl rfl rfl (by exact rfl)
        apply q_skip
        exact rfl
        exact want_f rfl rfl rfl (by exact rfl)
        apply q_skip
        exact rfl
        exact want_f rfl rfl rfl (by exact rfl)
        apply q_skip
        exact rfl
        exact want_f rfl rfl rfl (by exact rfl)
        apply q_skip
        exact rfl
        exact want_f rfl rfl rfl (by exact rfl)
        apply r_op
        exact rfl
        exact want_t rfl rfl rfl (by assumption)
        apply g_pick
        apply a_pickF rfl (by exact rfl)
        (conv => (lhs; whnf))
        apply r_op
        exact rfl
        exact rfl
        apply g_pick
        apply a_pickF rfl (by assumption)
        (conv => (lhs; whnf))
        with_reducible refine runs_done ?_
        refine W.condF rfl (by exact rfl) ?_
        refine W.skip ?_
        show W _ _ _ _ _ _ _
        refine W.regionL (by decide +kernel) rfl ?_
        apply r_op
        exact rfl
        exact rfl
        apply a_move
        (conv => (lhs; whnf))
        apply r_op
        exact rfl
        exact rfl
        apply g_binOp
        exact a_add64 rfl rfl (by omega)
        apply r_op
        exact rfl
        exact rfl
        apply a_assign
        (conv => (lhs; whnf))
        with_reducible refine runs_done ?_
        exact ⟨l.length - (0 + 1), by omega, 0 + 1, by omega, rfl, by exact Has.by (by repeat (first | exact trivial | refine ⟨by first | trivial | exact Weak.refl _ | exact Weak.tok _ _ _ | exact Weak.of_eq (congrArg (AV.int _) (by omega)) | exact Weak.of_eq (congrArg AV.bool (by fail)) | exact Weak.nils _ _ (.inr rfl), ?_⟩))⟩
      · have d3 : decide ((0 : Int) < (i : Int)) = true := decide_eq_true (by omega)
        obtain ⟨pv, gp, d4⟩ := hprev h0
        refine W.skip ?_
        show W _ _ _ _ _ _ _
        refine W.seq ?_
        refine W.block ?_
        refine W.seq ?_
        refine W.regionL (by decide +kernel) rfl ?_
        apply r_op
        exact rfl
        exact rfl
        apply a_move
        (conv => (lhs; whnf))
        apply r_op
        exact rfl
        exact rfl
        apply a_move
        (conv => (lhs; whnf))
        apply r_op
        exact rfl
        exact rfl
        apply g_indexAddr
        exact a_indexAddr rfl rfl (by decide) (by omega) (by exact get_map ga)
        apply r_op
        exact rfl
        exact rfl
        apply g_fieldAddr
        exact a_fieldAddr1 rfl (by decide) rfl
        apply r_op
        exact rfl
        exact rfl
        apply g_load
        exact a_load1 rfl rfl
        apply r_callP
        exact rfl
        exact rfl
        exact rfl
        exact rfl
        exact rfl
        infer_instance
        exact hp
        apply r_op
        exact rfl
        exact rfl
        apply a_move
        (conv => (lhs; whnf))
        apply r_op
        exact rfl
        exact rfl
        apply g_extract
        exact a_extract rfl rfl
        apply r_op
        exact rfl
        exact rfl
        apply g_extract
        exact a_extract rfl rfl
        apply r_op
        exact rfl
        exact rfl
        apply g_extract
        exact a_extract rfl rfl
        apply r_op
        exact rfl
        exact rfl
        apply g_extract
        exact a_extract rfl rfl
        apply r_op
        exact rfl
        exact rfl
        apply g_extract
        exact a_extract rfl rfl
        apply r_op
        exact rfl
        exact rfl
        apply a_assign
        (conv => (lhs; whnf))
        apply r_op
        exact rfl
        exact rfl
        apply a_assign
        (conv => (lhs; whnf))
        apply r_op
        exact rfl
        exact rfl
        apply a_assign
        (conv => (lhs; whnf))
        apply r_op
        exact rfl
        exact rfl
        apply a_assign
        (conv => (lhs; whnf))
        apply r_op
        exact rfl
        exact rfl
        apply a_assign
        (conv => (lhs; whnf))
        with_reducible refine runs_done ?_
        refine W.seq ?_
        refine W.regionDK 1 [] Ty.mixed (by decide +kernel) (by decide +kernel) rfl ?_
        apply r_op
        exact rfl
        exact rfl
        apply a_move
        (conv => (lhs; whnf))
        apply r_op
        exact rfl
        exact rfl
        apply g_unOp
        exact a_not rfl
        apply r_op
        exact rfl
        exact rfl
        apply a_move
        (conv => (lhs; whnf))
        apply r_op
        exact rfl
        exact rfl
        apply a_move
        (conv => (lhs; whnf))
        apply r_op
        exact rfl
        exact rfl
        apply g_binOp
        exact a_binI rfl rfl rfl
        apply r_op
        exact rfl
        exact rfl
        apply g_pick
        apply a_pickF rfl (by exact rfl)
        (conv => (lhs; whnf))
        apply r_op
        exact rfl
        exact rfl
        apply a_move
        (conv => (lhs; whnf))
        apply r_op
        exact rfl
        exact rfl
        apply a_move
        (conv => (lhs; whnf))
        apply r_op
        exact rfl
        exact rfl
        apply g_fieldAddr
        exact a_fieldAddr1 rfl (by decide) rfl
        apply r_op
        exact rfl
        exact rfl
        apply g_load
        exact a_load1 rfl rfl
        apply r_op
        exact rfl
        exact rfl
        apply g_binOp
        exact a_binI rfl rfl rfl
        apply r_op
        exact rfl
        exact rfl
        apply g_pick
        apply a_pickF rfl (by exact rfl)
        (conv => (lhs; whnf))
        apply r_op
        exact rfl
        exact rfl
        apply a_move
        (conv => (lhs; whnf))
        apply r_op
        exact rfl
        exact want_t rfl rfl rfl (by assumption)
        apply a_move
        (conv => (lhs; whnf))
        apply r_op
        exact rfl
        exact want_t rfl rfl rfl (by assumption)
        apply a_move
        (conv => (lhs; whnf))
        apply r_op
        exact rfl
        exact want_t rfl rfl rfl (by assumption)
        apply g_indexAddr
        exact a_indexAddr rfl rfl (by decide) (by omega) (by exact get_map ga)
        apply r_op
        exact rfl
        exact want_t rfl rfl rfl (by assumption)
        apply g_fieldAddr
        exact a_fieldAddr1 rfl (by decide) rfl
        apply r_op
        exact rfl
        exact want_t rfl rfl rfl (by assumption)
        apply g_load
        exact a_load1 rfl rfl
        apply r_op
        exact rfl
        exact want_t rfl rfl rfl (by assumption)
        apply g_call
        exact a_len_slc rfl
        apply r_op
        exact rfl
        exact want_t rfl rfl rfl (by assumption)
        apply g_binOp
        exact a_binI rfl rfl rfl
        apply r_op
        exact rfl
        exact rfl
        apply g_pick
        apply a_pickF rfl (by assumption)
        (conv => (lhs; whnf))
        apply r_op
        exact rfl
        exact rfl
        apply a_move
        (conv => (lhs; whnf))
        apply r_op
        exact rfl
        exact want_t rfl rfl rfl (by assumption)
        apply a_move
        (conv => (lhs; whnf))
        apply r_op
        exact rfl
        exact want_t rfl rfl rfl (by assumption)
        apply g_binOp
        exact a_binI rfl rfl rfl
        apply r_op
        exact rfl
        exact want_t rfl rfl rfl (by assumption)
        apply a_move
        (conv => (lhs; whnf))
        apply r_op
        exact rfl
        exact want_t rfl rfl rfl (by assumption)
        apply a_move
        (conv => (lhs; whnf))
        apply r_op
        exact rfl
        exact want_t rfl rfl rfl (by assumption)
        apply a_move
        (conv => (lhs; whnf))
        apply r_op
        exact rfl
        exact want_t rfl rfl rfl (by assumption)
        apply g_indexAddr
        exact a_indexAddr rfl rfl (by decide) (by omega) (by exact get_map ga)
        apply r_op
        exact rfl
        exact want_t rfl rfl rfl (by assumption)
        apply g_fieldAddr
        exact a_fieldAddr1 rfl (by decide) rfl
        apply r_op
        exact rfl
        exact want_t rfl rfl rfl (by assumption)
        apply g_load
        exact a_load1 rfl rfl
        apply r_op
        exact rfl
        exact want_t rfl rfl rfl (by assumption)
        apply a_move
        (conv => (lhs; whnf))
        apply r_op
        exact rfl
        exact want_t rfl rfl rfl (by assumption)
        apply a_move
        (conv => (lhs; whnf))
        apply r_op
        exact rfl
        exact want_t rfl rfl rfl (by assumption)
        apply g_binOp
        exact a_sub64 rfl rfl (by omega)
        apply r_op
        exact rfl
        exact want_t rfl rfl rfl (by assumption)
        apply g_indexAddr
        exact a_indexAddr rfl rfl (by decide) (by omega) (by exact get_map gp)
        apply r_op
        exact rfl
        exact want_t rfl rfl rfl (by assumption)
        apply g_fieldAddr
        exact a_fieldAddr1 rfl (by decide) rfl
        apply r_op
        exact rfl
        exact want_t rfl rfl rfl (by assumption)
        apply g_load
        exact a_load1 rfl rfl
        apply r_op
        exact rfl
        exact want_t rfl rfl rfl (by assumption)
        apply g_binOp
        exact a_binS rfl rfl rfl rfl
        apply r_op
        exact rfl
        exact want_t rfl rfl rfl (by assumption)
        apply g_pick
        apply a_pickT rfl (by assumption)
        (conv => (lhs; whnf))
        apply r_op
        exact rfl
        exact rfl
        apply g_pick
        apply a_pickF rfl (by assumption)
        (conv => (lhs; whnf))
        with_reducible refine runs_done ?_
        refine W.condF rfl (by assumption) ?_
        refine W.skip ?_
        show W _ _ _ _ _ _ _
        refine W.regionL (by decide +kernel) rfl ?_
        apply r_op
        exact rfl
        exact rfl
        apply a_move
        (conv => (lhs; whnf))
        apply r_op
        exact rfl
        exact rfl
        apply g_binOp
        exact a_add64 rfl rfl (by omega)
        apply r_op
        exact rfl
        exact rfl
        apply a_assign
        (conv => (lhs; whnf))
        with_reducible refine runs_done ?_
        exact ⟨l.length - (i + 1), by omega, i + 1, by omega, rfl, by exact Has.by (by repeat (first | exact trivial | refine ⟨by first | trivial | exact Weak.refl _ | exact Weak.tok _ _ _ | exact Weak.of_eq (congrArg (AV.int _) (by omega)) | exact Weak.of_eq (congrArg AV.bool (by fail)) | exact Weak.nils _ _ (.inr rfl), ?_⟩))⟩
    · refine W.exit ?_
      exact Has.by (by repeat (first | exact trivial | refine ⟨by first | trivial | exact Weak.refl _ | exact Weak.tok _ _ _ | exact Weak.of_eq (congrArg (AV.int _) (by omega)) | exact Weak.of_eq (congrArg AV.bool (by fail)) | exact Weak.nils _ _ (.inr rfl), ?_⟩))
  · rintro E s hE
    refine W.has hE ?_
    clear hE
    have d5 : decide (1 + ((x1.queue.map eMsg).length : Int) ≤ ((l.map eRow).length : Int)) = true := decide_eq_true (by simp; omega)
    refine W.seq ?_
    refine W.regionL (by decide +kernel) rfl ?_
    apply r_callP
    exact rfl
    exact rfl
    exact rfl
    exact rfl
    exact rfl
    infer_instance
    exact known_any w0 hL
    apply r_op
    exact rfl
    exact rfl
    apply a_move
    (conv => (lhs; whnf))
    apply r_op
    exact rfl
    exact rfl
    apply a_move
    (conv => (lhs; whnf))
    apply r_op
    exact rfl
    exact rfl
    apply g_call
    exact a_len_slc rfl
    apply r_op
    exact rfl
    exact rfl
    apply g_fieldAddr
    exact a_fieldAddr1 rfl (by decide) rfl
    apply r_op
    exact rfl
    exact rfl
    apply g_load
    exact a_load1 rfl rfl
    apply r_op
    exact rfl
    exact rfl
    apply g_call
    exact a_len_slc rfl
    apply r_op
    exact rfl
    exact rfl
    apply g_binOp
    exact a_add64 rfl rfl (by simp only [List.length_cons, List.length_append, List.length_nil, List.length_map, length_aBytes, List.length_replicate, List.length_range]; omega)
    apply r_op
    exact rfl
    exact rfl
    apply g_binOp
    exact a_binI rfl rfl rfl
    apply r_op
    exact rfl
    exact rfl
    apply g_pick
    apply a_pickT rfl (by exact rfl)
    (conv => (lhs; whnf))
    apply r_op
    exact rfl
    exact rfl
    apply a_assign
    (conv => (lhs; whnf))
    with_reducible refine runs_done ?_
    refine W.ret ?_
    show Q Exit.ret _ _
    refine post_p hQ rfl rfl ?_
    (conv => (lhs; whnf))
    rw [d5]
end Go.Proofs.YtkbmkhhcppfcnaaDoor
end
section
set_option linter.unusedVariables false
set_option linter.unusedSimpArgs false
namespace Go.Proofs.YtkbmkhhcppfcnaaDoor
open Go.Al
theorem dRows_app (l m : List Row) : ∀ i, i ≤ l.length → dRows (l ++ m) i = dRows l i
  | 0, _ => rfl
  | i + 1, h => by
    rw [dRows, dRows, dRows_app l m i (by omega), List.getElem?_append_left (by omega), List.getElem?_append_left (by omega)]
theorem dRows_snoc (l : List Row) (r : Row) (h : Up (l ++ [r])) : dRows (l ++ [r]) (l ++ [r]).length = { (dRow (dRows l l.length) r).1 with good := (dRows l l.length).good && (dRow (dRows l l.length) r).2.isNone } := by
  have hl : (l ++ [r]).length = l.length + 1 := by simp
  rw [hl, dRows, dRows_app l [r] _ (Nat.le_refl _)]
  have hr : (l ++ [r])[l.length]? = some r := by simp
  rw [hr, dStep]
  have hg : (decide (l.length = 0) || gtS r.key (((l ++ [r])[l.length - 1]?).getD ⟨[], []⟩).key) = true := by
    by_cases h0 : l.length = 0
    · simp [h0]
    · obtain ⟨j, hj⟩ : ∃ j, l.length = j + 1 := ⟨l.length - 1, by omega⟩
      have h1 : (l ++ [r])[j]? = some (l[j]'(by omega)) := by rw [List.getElem?_append_left (by omega)]; simp
      have h2 := h.get h1 (by rw [← hj]; exact hr)
      rw [show l.length - 1 = j by omega, h1]
      simp [gtS_of h2]
  rw [show (((some r : Option Row)).getD ⟨[], []⟩) = r from rfl, hg]
  simp
def diffs (lo : Int) : List Int → List Int
  | [] => []
  | a :: l => ((clampN (w64 (a - lo)) : Nat) : Int) :: diffs a l
theorem rGaps_at {v : List UInt8} : ∀ (l : List Int) (lo : Int) (a : Nat) (acc : List Int) (rest : List UInt8), At v a (gapsB lo l ++ rest) → rGaps v l.length a none acc = (acc ++ diffs lo l, none)
  | [], lo, a, acc, rest, h => by simp [rGaps, diffs]
  | b :: l, lo, a, acc, rest, h => by
    rw [gapsB, List.append_assoc] at h
    obtain ⟨h1, h2⟩ := rNum_at h
    rw [List.length_cons, rGaps, if_pos rfl, h1]
    dsimp only
    rw [rGaps_at l b _ _ rest h2, diffs, List.append_assoc]; rfl
theorem runUp_diffs : ∀ (l : List Int) (lo : Int) (n : Nat), 0 ≤ lo → Rise lo l → (∀ a ∈ l, a < n) → n ≤ 9007199254740992 → runUp lo (diffs lo l) = l
  | [], _, _, _, _, _, _ => rfl
  | a :: l, lo, n, h0, h, hh, hn => by
    have h1 := h.1
    have h2 := hh a (by simp)
    have h3 : w64 (a - lo) = a - lo := Go.IntWalk.i64_in _ (by omega)
    have h4 : ((clampN (a - lo) : Nat) : Int) = a - lo := clampN_53 ⟨by omega, by omega⟩
    have h5 : w64 (lo + (a - lo)) = a := by rw [show lo + (a - lo) = a by omega]; exact Go.IntWalk.i64_in _ (by omega)
    rw [diffs, runUp, h3, h4, h5, runUp_diffs l a n (by omega) h.2 (fun x hx => hh x (by simp [hx])) hn]
theorem at_self (v : List UInt8) : At v 0 (v ++ []) := by rw [List.append_nil]; exact at_start v
theorem death_whole {c mo le : Int} {m : Msg} (h : MsgOk c mo le m) : decide ((0 : Int) < ((clampN (deathN m) : Nat) : Int)) = m.dead ∧ whyN (min (clampN (deathN m)) 2) = m.why := by
  rcases h.st with ⟨h1, h2, _⟩ | ⟨h1, h2, _⟩ | ⟨h1, _, _, h2⟩
  · have e : deathN m = 0 := by rw [deathN, if_pos h1]
    rw [e, h1, h2]; exact ⟨by decide, by decide⟩
  · have e : deathN m = 0 := by rw [deathN, if_pos h1]
    rw [e, h1, h2]; exact ⟨by decide, by decide⟩
  · rcases h2 with h2 | h2
    · have e : deathN m = 1 := by rw [deathN, if_neg (by rw [h1]; decide), if_pos h2]
      rw [e, h1, h2]; exact ⟨by decide, by decide⟩
    · have e : deathN m = 2 := by rw [deathN, if_neg (by rw [h1]; decide), if_neg (by rw [h2]; decide)]
      rw [e, h1, h2]; exact ⟨by decide, by decide⟩
structure MsgFit (m : Msg) : Prop where
  tries : n53 m.tries
  until_ : n53 m.until_
  prio : n53 m.prio
theorem MsgOk.fit {c mo le : Int} {m : Msg} (h : MsgOk c mo le m) (hc : 0 ≤ c ∧ c ≤ 1000000000000000) (hm : 1 ≤ mo ∧ mo ≤ 9) (hl : 1 ≤ le ∧ le ≤ 1000) : MsgFit m := by
  have hp := h.prio
  rcases h.st with ⟨h1, h2, h3, h4⟩ | ⟨h1, h2, h3, h4⟩ | ⟨h1, h3, h4, h2⟩ <;> exact ⟨⟨by omega, by omega⟩, ⟨by omega, by omega⟩, ⟨by omega, by omega⟩⟩
theorem rMsg_back {c mo le : Int} {m : Msg} (h : MsgOk c mo le m) (hf : MsgFit m) : rMsg m.seq (msgB m) 0 none = (m, (msgB m).length, none) := by
  have h0 := at_self (msgB m)
  have e : msgB m ++ [] = txt m.body ++ (txt m.attr ++ (num m.tries ++ (num m.until_ ++ (num m.prio ++ (num (deathN m) ++ []))))) := by simp [msgB]
  rw [e] at h0
  obtain ⟨r1, h1⟩ := rText_at h0 h.body (by decide)
  obtain ⟨r2, h2⟩ := rText_at h1 h.alen (by decide)
  obtain ⟨r3, h3⟩ := rNum_at h2
  obtain ⟨r4, h4⟩ := rNum_at h3
  obtain ⟨r5, h5⟩ := rNum_at h4
  obtain ⟨r6, h6⟩ := rNum_at h5
  obtain ⟨d1, d2⟩ := death_whole h
  simp only [rMsg, r1, r2, r3, r4, r5, r6]
  rw [clampN_53 hf.tries, clampN_53 hf.until_, clampN_53 hf.prio, d1, d2]
  refine Prod.ext rfl (Prod.ext ?_ rfl)
  simp [msgB]; omega
theorem rSub_back {id clock next : Nat} {x : Sub} (h : Grown id clock next x) (hn : next ≤ 1000000000) (y : Sub) : rSub y (subB x) = ({ y with name := x.name, topic := x.topic, want := x.want, lease := x.lease, most := x.most, floor := x.floor, note := x.note }, none) := by
  have h0 := at_self (subB x)
  have e : subB x ++ [] = txt x.name ++ (txt x.topic ++ (txt x.want ++ (num x.lease ++ (num x.most ++ (num x.floor ++ (txt x.note ++ [])))))) := by simp [subB]
  rw [e] at h0
  have hm := h.most
  have hl := h.lease
  have hf := h.floor
  obtain ⟨r1, h1⟩ := rText_at h0 (show x.name.length ≤ 30 by have := h.nlen; omega) (by decide)
  obtain ⟨r2, h2⟩ := rText_at h1 h.topic.len (by decide)
  obtain ⟨r3, h3⟩ := rText_at h2 h.want.len (by decide)
  obtain ⟨r4, h4⟩ := rNum_at h3
  obtain ⟨r5, h5⟩ := rNum_at h4
  obtain ⟨r6, h6⟩ := rNum_at h5
  obtain ⟨r7, h7⟩ := rText_at h6 h.note (by decide)
  simp only [rSub, r1, r2, r3, r4, r5, r6, r7]
  rw [clampN_53 (n := x.lease) ⟨by omega, by omega⟩, clampN_53 (n := x.most) ⟨by omega, by omega⟩, clampN_53 (n := x.floor) ⟨by omega, by omega⟩]
theorem up_take {l m : List Row} (h : Up (l ++ m)) : Up l := (List.pairwise_append.1 h).1
theorem dRows_back {id clock next : Nat} {x : Sub} (h : Grown id clock next x) (hc : clock ≤ 1000000000) (hid : id ≤ 1000000000) (hn : next ≤ 1000000000) : dRows (enc3 x) (enc3 x).length = ⟨{ x with acks := [] }, diffs x.floor x.acks, true⟩ := by
  have hup := enc3_up h (by omega)
  have hcl : ((cl x.id : Nat) : Int) = x.id := cl_nn (by have := h.id; omega)
  -- the acknowledgements' row
  have h1 : dRows (preR x) (preR x).length = ⟨{ sub0 with id := if x.acks = [] then 0 else x.id }, diffs x.floor x.acks, true⟩ := by
    unfold preR
    split
    · rename_i h0; rw [h0]; rfl
    · have := dRows_snoc [] ⟨rkey 3 97 x.id 0, acksB x⟩ (.cons (by simp) .nil)
      rw [List.nil_append] at this
      rw [this, dRow]
      dsimp only
      rw [parts_rkey (by decide) (by decide)]
      dsimp only
      rw [if_pos rfl]
      have ha : At (acksB x) 0 (num x.acks.length ++ (gapsB x.floor x.acks ++ [])) := by rw [List.append_nil]; exact at_start _
      obtain ⟨r1, k1⟩ := rNum_at ha
      have hcn : clampN (x.acks.length : Int) = x.acks.length := by have := h.nacks; unfold clampN; omega
      rw [r1, hcn]
      dsimp only
      rw [rGaps_at x.acks x.floor _ _ [] k1, hcl]
      rfl
  -- the queue's rows
  have h2 : ∀ j, j ≤ x.queue.length → ∃ i, dRows (preR x ++ (x.queue.take j).map (msgRow x.id)) (preR x ++ (x.queue.take j).map (msgRow x.id)).length = ⟨{ sub0 with id := i, queue := x.queue.take j }, diffs x.floor x.acks, true⟩ := by
    intro j
    induction j with
    | zero =>
      intro _
      refine ⟨if x.acks = [] then 0 else x.id, ?_⟩
      rw [List.take_zero, List.map_nil, List.append_nil, h1]
      rfl
    | succ j ih =>
      intro hj
      obtain ⟨i, hi⟩ := ih (by omega)
      have hq : x.queue.take (j + 1) = x.queue.take j ++ [x.queue[j]] := take_snoc (by simp [show j < x.queue.length by omega])
      have hm : x.queue[j] ∈ x.queue := List.getElem_mem _
      have hsp : x.queue = (x.queue.take j ++ [x.queue[j]]) ++ x.queue.drop (j + 1) := by rw [← hq, List.take_append_drop]
      generalize x.queue[j] = m at hq hm hsp
      generalize x.queue.drop (j + 1) = r at hsp
      rw [hq]
      generalize x.queue.take j = q at hi hq hsp
      have hok := h.msgs m hm
      have hsq : ((cl m.seq : Nat) : Int) = m.seq := by
        have h1 := h.qhigh m hm
        have h2 := h.qrise.lt m.seq (List.mem_map.2 ⟨m, hm, rfl⟩)
        have h3 := h.floor
        exact cl_nn ⟨by omega, by omega⟩
      have hupq : Up ((preR x ++ q.map (msgRow x.id)) ++ [msgRow x.id m]) := by
        have e : enc3 x = ((preR x ++ q.map (msgRow x.id)) ++ [msgRow x.id m]) ++ (r.map (msgRow x.id) ++ [⟨rkey 3 115 x.id 0, subB x⟩]) := by
          rw [enc3_eq]
          conv => lhs; rw [hsp]
          simp
        rw [e] at hup
        exact up_take hup
      refine ⟨x.id, ?_⟩
      have e2 : preR x ++ (q ++ [m]).map (msgRow x.id) = (preR x ++ q.map (msgRow x.id)) ++ [msgRow x.id m] := by simp
      have hp : parts (msgRow x.id m).key = ⟨3, 113, x.id, m.seq, true⟩ := by
        have := parts_rkey (v := 3) (by decide) (t := 113) (by decide) x.id m.seq
        rw [hcl, hsq] at this
        exact this
      have hmm := rMsg_back hok (hok.fit ⟨by omega, by omega⟩ h.most h.lease)
      have hstep : ∀ d : D3, dRow d (msgRow x.id m) = (⟨{ d.x with id := x.id, queue := d.x.queue ++ [m] }, d.gaps, d.good⟩, none) := fun d => by
        unfold dRow
        rw [hp]
        dsimp only
        rw [if_neg (show ¬ (113 : UInt8) = 97 by decide), if_pos rfl, show (msgRow x.id m).val = msgB m from rfl, hmm]
      rw [e2, dRows_snoc _ _ hupq, hi, hstep]
      rfl
  obtain ⟨i, hi⟩ := h2 x.queue.length (Nat.le_refl _)
  rw [List.take_length] at hi
  have hup' : Up ((preR x ++ x.queue.map (msgRow x.id)) ++ [⟨rkey 3 115 x.id 0, subB x⟩]) := by rw [← enc3_eq]; exact hup
  have hp : parts (rkey 3 115 x.id 0) = ⟨3, 115, x.id, 0, true⟩ := by
    have := parts_rkey (v := 3) (by decide) (t := 115) (by decide) x.id 0
    rw [hcl] at this
    exact this
  have hstep : ∀ d : D3, dRow d ⟨rkey 3 115 x.id 0, subB x⟩ = (⟨{ d.x with id := x.id, name := x.name, topic := x.topic, want := x.want, lease := x.lease, most := x.most, floor := x.floor, note := x.note }, d.gaps, d.good⟩, none) := fun d => by
    unfold dRow
    dsimp only
    rw [hp]
    dsimp only
    rw [if_neg (show ¬ (115 : UInt8) = 97 by decide), if_neg (show ¬ (115 : UInt8) = 113 by decide), if_pos rfl, rSub_back h hn]
  rw [enc3_eq, dRows_snoc _ _ hup', hi, hstep]
  rfl
theorem dec3_back {id clock next : Nat} {x : Sub} (h : Grown id clock next x) (hc : clock ≤ 1000000000) (hid : id ≤ 1000000000) (hn : next ≤ 1000000000) : dec3 (enc3 x) = (x, 0) := by
  have hr := dRows_back h hc hid hn
  have hs : dSub (enc3 x) = x := by
    rw [dSub, hr]
    dsimp only
    rw [runUp_diffs x.acks x.floor next h.floor.1 h.rise h.high (by omega)]
  rw [dec3, hs, hr, if_pos ⟨rfl, rfl⟩]
end Go.Proofs.YtkbmkhhcppfcnaaDoor
end
section
set_option linter.unusedVariables false
set_option linter.unusedSimpArgs false
set_option maxRecDepth 100000
set_option maxHeartbeats 4000000
namespace Go.Proofs.YtkbmkhhcppfcnaaDoor
open Go.Al Go.RowKit
theorem rt_in (w0 : World) {b : Nat} {S : St} {v : List UInt8} {a a' most : Nat} {f f' : Option Nat} {s : List UInt8} (h : rText v a f most = (s, a', f')) (hv : v.length ≤ 1000000) (ha : a ≤ 1000000) (hm : most ≤ 1000000) :
    CallW Tryd.prog w0 47 [.ptr b 0, .int .i64 most] (S.setBox b (rd v a f)) (fun r s' => r = .str s ∧ s' = S.setBox b (rd v a' f')) := by
  have := rtext_any w0 v a most f b (S.setBox b (rd v a f)) hv ha hm setBox_same
  rw [h, setBox_setBox] at this
  exact this
theorem rn_in (w0 : World) {b : Nat} {S : St} {v : List UInt8} {a a' n : Nat} {f f' : Option Nat} (h : rNum v a f = (n, a', f')) (hv : v.length ≤ 1000000) (ha : a ≤ 1000000) :
    CallW Tryd.prog w0 45 [.ptr b 0] (S.setBox b (rd v a f)) (fun r s' => r = .int .i64 n ∧ s' = S.setBox b (rd v a' f')) := by
  have := rnum_any w0 v a f b (S.setBox b (rd v a f)) hv ha setBox_same
  rw [h, setBox_setBox] at this
  exact this
theorem rt_to {v : List UInt8} {a : Nat} (f : Option Nat) (most : Nat) (hv : v.length ≤ 1000000) (ha : a ≤ 1000000) : ∃ s a' f', rText v a f most = (s, a', f') ∧ a' ≤ 1000000 :=
  ⟨(rText v a f most).1, (rText v a f most).2.1, (rText v a f most).2.2, rfl, by have := rText_far v a f most; omega⟩
theorem rn_to {v : List UInt8} {a : Nat} (f : Option Nat) (hv : v.length ≤ 1000000) (ha : a ≤ 1000000) : ∃ n a' f', rNum v a f = (n, a', f') ∧ a' ≤ 1000000 :=
  ⟨(rNum v a f).1, (rNum v a f).2.1, (rNum v a f).2.2, rfl, by have := rNum_far v a f; omega⟩
theorem message_any (w0 : World) {b : Nat} {S : St} {v : List UInt8} {a : Nat} {f : Option Nat} (seq : Int) (hv : v.length ≤ 1000000) (ha : a ≤ 1000000) :
    CallW Tryd.prog w0 46 [.int .i64 seq, .ptr b 0] (S.setBox b (rd v a f)) (fun r s => r = eMsg (rMsg seq v a f).1 ∧ s = S.setBox b (rd v (rMsg seq v a f).2.1 (rMsg seq v a f).2.2)) := by
  refine CallW.start Tryd.func46 rfl Tryd.ntmps46 (by simp) fun Q hQ => ?_
  obtain ⟨s1, a1, f1, e1, k1⟩ := rt_to f 60 hv ha
  obtain ⟨s2, a2, f2, e2, k2⟩ := rt_to f1 30 hv k1
  obtain ⟨n3, a3, f3, e3, k3⟩ := rn_to f2 hv k2
  obtain ⟨n4, a4, f4, e4, k4⟩ := rn_to f3 hv k3
  obtain ⟨n5, a5, f5, e5, k5⟩ := rn_to f4 hv k4
  obtain ⟨n6, a6, f6, e6, k6⟩ := rn_to f5 hv k5
  have hr : rMsg seq v a f = (⟨seq, s1, s2, n3, n4, decide ((0 : Int) < (n6 : Int)), whyN (min n6 2), n5⟩, a6, f6) := by simp only [rMsg, e1, e2, e3, e4, e5, e6]
  rw [hr] at hQ
  clear hr
  obtain ⟨j, hj, hw⟩ : ∃ j : Nat, min (n6 : Int) 2 = (j : Nat) ∧ [AV.str [], AV.str [110, 97, 99, 107], AV.str [116, 105, 109, 101]][((j : Nat) : Int).toNat * 1]? = some (.str (whyN (min n6 2))) := by
    refine ⟨min n6 2, by omega, ?_⟩
    have : min n6 2 < 3 := by omega
    generalize min n6 2 = q at this
    match q, this with
    | 0, _ => rfl
    | 1, _ => rfl
    | 2, _ => rfl
  have hjl : j ≤ 2 := by omega
  generalize whyN (min n6 2) = wy at hw hQ
  refine W.seq ?_
  refine W.regionL (by decide +kernel) rfl ?_
  apply r_alloc
  exact rfl
  exact rfl
  decide
  exact rfl
  (conv => (lhs; whnf))
  intro b1 hb1
  refine runs_done ?_
  show W _ _ _ _ _ _ _
  have hne : b1 ≠ b := ne_none hb1
  have hb4 : S.box b1 = none := none_in hb1
  rw [setBox_comm hne.symm]
  generalize b1 = b4 at *
  refine W.seq ?_
  refine W.regionL (by decide +kernel) rfl ?_
  apply r_op
  exact rfl
  exact rfl
  apply a_move
  (conv => (lhs; whnf))
  apply r_op
  exact rfl
  exact rfl
  apply a_move
  (conv => (lhs; whnf))
  apply r_callS
  exact rfl
  exact rfl
  decide
  exact rfl
  exact rfl
  exact rfl
  infer_instance
  exact rt_in w0 e1 hv ha (by decide)
  apply r_op
  exact rfl
  exact rfl
  apply a_move
  (conv => (lhs; whnf))
  apply r_callS
  exact rfl
  exact rfl
  decide
  exact rfl
  exact rfl
  exact rfl
  infer_instance
  exact rt_in w0 e2 hv k1 (by decide)
  apply r_op
  exact rfl
  exact rfl
  apply a_move
  (conv => (lhs; whnf))
  apply r_callS
  exact rfl
  exact rfl
  decide
  exact rfl
  exact rfl
  exact rfl
  infer_instance
  exact rn_in w0 e3 hv k2
  apply r_op
  exact rfl
  exact rfl
  apply a_move
  (conv => (lhs; whnf))
  apply r_callS
  exact rfl
  exact rfl
  decide
  exact rfl
  exact rfl
  exact rfl
  infer_instance
  exact rn_in w0 e4 hv k3
  apply r_op
  exact rfl
  exact rfl
  apply a_move
  (conv => (lhs; whnf))
  apply r_callS
  exact rfl
  exact rfl
  decide
  exact rfl
  exact rfl
  exact rfl
  infer_instance
  exact rn_in w0 e5 hv k4
  apply r_op
  exact rfl
  exact rfl
  apply g_build
  apply a_build
  apply EvP.cons (by (conv => (lhs; whnf)))
  apply EvP.cons (by (conv => (lhs; whnf)))
  apply EvP.cons (by (conv => (lhs; whnf)))
  apply EvP.cons (by (conv => (lhs; whnf)))
  apply EvP.cons (by (conv => (lhs; whnf)))
  apply EvP.cons (by (conv => (lhs; whnf)))
  exact EvP.nil
  simp only [aFill, List.getElem?_cons_zero, List.getElem?_cons_succ, AV.cells, List.length_cons, List.length_nil, AV.flat, AV.one, setL, List.set_cons_zero, List.set_cons_succ, Nat.reduceAdd, Nat.reduceLeDiff, Nat.reduceMul, and_self, if_true, ↓reduceIte, Nat.zero_add, Nat.le_refl, List.range, List.range.loop, List.map_cons, List.map_nil, Nat.zero_le]
  rfl
  apply r_alloc
  exact rfl
  exact rfl
  decide
  exact rfl
  (conv => (lhs; whnf))
  intro b1 hb1
  apply r_store
  exact rfl
  exact rfl
  exact rfl
  decide
  infer_instance
  exact rfl
  exact setBox_same
  (conv => (lhs; whnf))
  exact rfl
  (conv => (lhs; whnf))
  exact rfl
  exact of_decide_eq_true rfl
  exact setL_whole rfl
  refine runs_done ?_
  show W _ _ _ _ _ _ _
  have hne5 : b1 ≠ b := ne_none hb1
  have hb5' := none_in hb1
  have hne45 : b1 ≠ b4 := ne_none hb5'
  have hb5 : S.box b1 = none := none_in hb5'
  clear hb5'
  rw [setBox_setBox, setBox_comm hne5.symm]
  generalize b1 = b5 at *
  generalize hS2 : (S.setBox b4 _).setBox b5 _ = S2
  have h5 : S2.box b5 = some [.int .i64 seq, .str s1, .str s2, .int .i64 n3, .int .i64 n4, .bool false, .str [], .int .i64 n5] := by rw [← hS2]; exact setBox_same
  have h4 : S2.box b4 = some [.int .i64 0, .str [], .str [], .int .i64 0, .int .i64 0, .bool false, .str [], .int .i64 0] := by rw [← hS2]; exact hb_ne hne45.symm setBox_same
  have hle : St.Le (S.setBox b (rd v a6 f6)) (S2.setBox b (rd v a6 f6)) := by
    rw [← hS2, setBox_comm hne5, setBox_comm hne]
    exact le_setBox (le_setBox (.refl _) (by rw [setBox_ne hne]; exact hb4)) (by rw [setBox_ne hne5]; exact hb5)
  have h4n : (S.setBox b (rd v a6 f6)).box b4 = none := by rw [setBox_ne hne]; exact hb4
  have h5n : (S.setBox b (rd v a6 f6)).box b5 = none := by rw [setBox_ne hne5]; exact hb5
  have hn : ∀ c, (S2.setBox b (rd v a6 f6)).box c = none → (S.setBox b (rd v a6 f6)).box c = none := fun c hc => by
    cases hq : (S.setBox b (rd v a6 f6)).box c with
    | none => rfl
    | some cs => rw [hle.box c cs hq] at hc; cases hc
  clear hS2
  refine W.seq ?_
  refine W.regionL (by decide +kernel) rfl ?_
  apply r_op
  exact rfl
  exact rfl
  apply a_move
  (conv => (lhs; whnf))
  apply r_callS
  exact rfl
  exact rfl
  decide
  exact rfl
  exact rfl
  exact rfl
  infer_instance
  exact rn_in w0 e6 hv k5
  apply r_op
  exact rfl
  exact rfl
  apply a_assign
  (conv => (lhs; whnf))
  refine runs_done ?_
  show W _ _ _ _ _ _ _
  refine W.seq ?_
  refine W.regionL (by decide +kernel) rfl ?_
  apply r_callP
  exact rfl
  exact rfl
  exact rfl
  exact rfl
  exact rfl
  infer_instance
  exact whys_any w0
  apply r_alloc
  exact rfl
  exact rfl
  decide
  exact rfl
  (conv => (lhs; whnf))
  intro b1 hb1
  apply r_store
  exact rfl
  exact rfl
  exact rfl
  decide
  infer_instance
  exact rfl
  exact setBox_same
  (conv => (lhs; whnf))
  exact rfl
  (conv => (lhs; whnf))
  exact rfl
  exact of_decide_eq_true rfl
  exact setL_whole rfl
  refine runs_done ?_
  show W _ _ _ _ _ _ _
  refine W.freeze1 7 (.agg [AV.str [], AV.str [110, 97, 99, 107], AV.str [116, 105, 109, 101]]) (by assumption) rfl rfl rfl ?_
  clear hn
  generalize hS3 : S2.setBox b _ = S3 at hle ⊢
  have g5 : S3.box b5 = some [.int .i64 seq, .str s1, .str s2, .int .i64 n3, .int .i64 n4, .bool false, .str [], .int .i64 n5] := by rw [← hS3]; exact hb_ne hne5 h5
  have g4 : S3.box b4 = some [.int .i64 0, .str [], .str [], .int .i64 0, .int .i64 0, .bool false, .str [], .int .i64 0] := by rw [← hS3]; exact hb_ne hne h4
  clear hb1 hS3 h4 h5 S2
  refine W.seq ?_
  refine W.regionDK 0 [] Ty.mixed (by decide +kernel) (by decide +kernel) rfl ?_
  apply r_op
  exact rfl
  exact rfl
  apply a_move
  (conv => (lhs; whnf))
  apply r_op
  exact rfl
  exact rfl
  apply g_binOp
  exact a_binI rfl rfl rfl
  apply r_op
  exact rfl
  exact rfl
  apply a_move
  (conv => (lhs; whnf))
  apply r_op
  exact rfl
  exact rfl
  apply g_call
  exact a_minE rfl rfl hj
  apply r_indexV1
  exact rfl
  exact rfl
  exact rfl
  exact rfl
  exact rfl
  infer_instance
  infer_instance
  infer_instance
  omega
  exact hw
  apply r_op
  exact rfl
  exact rfl
  apply g_load
  exact a_load1 rfl rfl
  apply r_op
  exact rfl
  exact rfl
  apply g_fieldAddr
  exact a_fieldAddrP rfl (by decide)
  apply r_store
  exact rfl
  exact rfl
  exact rfl
  decide
  infer_instance
  exact rfl
  assumption
  (conv => (lhs; whnf))
  exact rfl
  (conv => (lhs; whnf))
  exact rfl
  exact of_decide_eq_true rfl
  exact rfl
  apply r_op
  exact rfl
  exact rfl
  apply g_fieldAddr
  exact a_fieldAddrP rfl (by decide)
  apply r_store
  exact rfl
  exact rfl
  exact rfl
  decide
  infer_instance
  exact rfl
  exact setBox_same
  (conv => (lhs; whnf))
  exact rfl
  (conv => (lhs; whnf))
  exact rfl
  exact of_decide_eq_true rfl
  exact rfl
  with_reducible refine runs_done ?_
  refine W.seq ?_
  refine W.regionL (by decide +kernel) rfl ?_
  apply r_load
  exact rfl
  exact rfl
  exact rfl
  decide
  exact rfl
  exact setBox_same
  exact aLoadA rfl (by rfl) rfl
  apply r_store
  exact rfl
  exact rfl
  exact rfl
  decide
  infer_instance
  exact rfl
  apply hb_ne (by exact ne_none' (by exact none_in (by assumption)))
  apply hb_ne (by exact ne_none' (by exact none_in (by assumption)))
  assumption
  (conv => (lhs; whnf))
  exact rfl
  (conv => (lhs; whnf))
  exact rfl
  exact of_decide_eq_true rfl
  exact setL_whole rfl
  with_reducible refine runs_done ?_
  refine W.ret ?_
  show Q Exit.ret _ _
  refine post_q hQ (by apply res_cell; exact rfl; exact setBox_same; exact aLoadA rfl (by rfl) rfl; exact res_nil) (.inl rfl) ?_ ?_
  rotate_left
  rotate_left
  · exact le_setBox (le_setBox (le_setBox hle h5n) h5n) h4n
  · rfl
end Go.Proofs.YtkbmkhhcppfcnaaDoor
end
