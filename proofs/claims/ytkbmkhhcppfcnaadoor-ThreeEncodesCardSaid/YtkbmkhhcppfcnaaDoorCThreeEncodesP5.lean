/- The law ThreeEncodes returns true for every input, and its arguments read as before: the tied card. No conditions. This is part 5 of 6 of its proof; the parts are read in order. No conditions. -/
import Derived.Test.YtkbmkhhcppfcnaaDoorCThreeEncodesP4
section
set_option linter.unusedVariables false
set_option linter.unusedSimpArgs false
set_option maxRecDepth 100000
set_option maxHeartbeats 2000000
namespace Go.Proofs.YtkbmkhhcppfcnaaDoor
open Go.Al Go.RowKit
theorem dec_nil (w0 : World) (hL : Laid w0) : CallP Tryd.prog w0 18 [.nils] (.tup [zA, .int .u16 11]) := by
  refine CallP.start Tryd.func18 rfl Tryd.ntmps18 (by simp) fun σ Q hQ => ?_
  have hen := enc_zA w0 hL
  have heq : CallP Tryd.prog w0 49 [.slc 2 ((enc3 z0).map eRow) .no, .nils, .fn (.func 48) [] []] (.bool false) := fun σ => by
    have := eqRows_any w0 (enc3 z0) [] .no .no (by simp [enc3, z0])  σ
    rw [show decide (enc3 z0 = []) = false by simp [enc3]] at this
    exact CallW.weak1 [_] [_] (.nils 2 .no (.inl rfl)) this
  refine W.seq ?_
  refine W.regionL (by decide +kernel) rfl ?_
  apply r_alloc
  exact rfl
  exact rfl
  decide
  exact rfl
  (conv => (lhs; whnf))
  intro b1 hb1
  apply r_op
  exact rfl
  exact rfl
  apply a_assign
  (conv => (lhs; whnf))
  with_reducible refine runs_done ?_
  refine W.seq ?_
  refine W.regionL (by decide +kernel) rfl ?_
  apply r_alloc
  exact rfl
  exact rfl
  decide
  exact rfl
  (conv => (lhs; whnf))
  intro b1 hb1
  with_reducible refine runs_done ?_
  refine W.seq ?_
  refine W.regionL (by decide +kernel) rfl ?_
  apply r_op
  exact rfl
  exact rfl
  apply a_assign
  (conv => (lhs; whnf))
  with_reducible refine runs_done ?_
  refine W.seq ?_
  refine W.regionL (by decide +kernel) rfl ?_
  apply r_op
  exact rfl
  exact rfl
  apply a_assign
  (conv => (lhs; whnf))
  with_reducible refine runs_done ?_
  refine W.seq ?_
  refine W.seq ?_
  refine W.regionL (by decide +kernel) rfl ?_
  apply r_op
  exact rfl
  exact rfl
  apply a_move
  (conv => (lhs; whnf))
  apply r_op
  exact rfl
  exact rfl
  apply g_call
  exact a_len_nils rfl
  apply r_op
  exact rfl
  exact rfl
  apply a_move
  (conv => (lhs; whnf))
  with_reducible refine runs_done ?_
  refine W.block ?_
  rename_i b2 hb2
  have hne : b2 ≠ b1 := ne_none' hb1
  have hs4 : σ.box b1 = none := none_in hb1
  generalize b1 = b4 at hne hs4 hb1 ⊢
  refine W.loop (fun k E s => k = 0 ∧ s.box b2 = some z27 ∧ s.box b4 = some z27 ∧ St.Le σ s ∧ Has [(0, .nils), (2, .ptr b2 0), (3, .int .u16 0), (4, .ptr b4 0), (5, .nils), (6, .bool true), (20, .nils), (21, .int .i64 0), (22, .int .i64 0)] E) 0 ⟨rfl, by repeat (first | exact setBox_same | apply hb_ne (by first | assumption | exact ne_none' (by first | assumption | exact none_in (by assumption) | exact none_in (none_in (by assumption)) | exact none_in (none_in (none_in (by assumption))) | exact none_in (none_in (none_in (none_in (by assumption)))) | exact none_in (none_in (none_in (none_in (none_in (by assumption))))) | exact none_in (none_in (none_in (none_in (none_in (none_in (by assumption)))))) | exact none_in (none_in (none_in (none_in (none_in (none_in (none_in (by assumption))))))) | exact none_in (none_in (none_in (none_in (none_in (none_in (none_in (none_in (by assumption)))))))) | fail) | exact ne_none (by first | assumption | exact none_in (by assumption) | exact none_in (none_in (by assumption)) | exact none_in (none_in (none_in (by assumption))) | exact none_in (none_in (none_in (none_in (by assumption)))) | exact none_in (none_in (none_in (none_in (none_in (by assumption))))) | exact none_in (none_in (none_in (none_in (none_in (none_in (by assumption)))))) | exact none_in (none_in (none_in (none_in (none_in (none_in (none_in (by assumption))))))) | exact none_in (none_in (none_in (none_in (none_in (none_in (none_in (none_in (by assumption)))))))) | fail) | fail)), setBox_same, by repeat (first | assumption | exact .refl _ | refine le_setBox ?_ (by first | assumption | exact none_in (by assumption) | exact none_in (none_in (by assumption)) | exact none_in (none_in (none_in (by assumption))) | exact none_in (none_in (none_in (none_in (by assumption)))) | exact none_in (none_in (none_in (none_in (none_in (by assumption))))) | exact none_in (none_in (none_in (none_in (none_in (none_in (by assumption)))))) | exact none_in (none_in (none_in (none_in (none_in (none_in (none_in (by assumption))))))) | exact none_in (none_in (none_in (none_in (none_in (none_in (none_in (none_in (by assumption)))))))) | fail)), by exact Has.by (by repeat (first | exact trivial | refine ⟨by first | trivial | exact Weak.refl _ | exact Weak.tok _ _ _ | exact Weak.of_eq (congrArg (AV.int _) (by omega)) | exact Weak.nils _ _ (.inr rfl), ?_⟩))⟩ ?_
  rintro k E s ⟨rfl, h2, h4, hle, hE⟩
  refine W.has hE ?_
  clear hE
  unfold z27 at h2 h4
  refine W.seq ?_
  refine W.regionL (by decide +kernel) rfl ?_
  apply r_op
  exact rfl
  exact rfl
  apply g_binOp
  exact a_binI rfl rfl rfl
  with_reducible refine runs_done ?_
  refine W.seq ?_
  refine W.condF rfl (by exact rfl) ?_
  refine W.exit ?_
  show W _ _ _ _ _ _ _
  refine W.seq ?_
  refine W.regionL (by decide +kernel) rfl ?_
  apply r_op
  exact rfl
  exact rfl
  apply g_fieldAddr
  exact a_fieldAddrP rfl (by decide)
  apply r_load
  exact rfl
  exact rfl
  exact rfl
  decide
  exact rfl
  assumption
  exact aLoad1 rfl
  apply r_op
  exact rfl
  exact rfl
  apply a_assign
  (conv => (lhs; whnf))
  with_reducible refine runs_done ?_
  refine W.seq ?_
  refine W.seq ?_
  refine W.regionL (by decide +kernel) rfl ?_
  apply r_op
  exact rfl
  exact rfl
  apply a_move
  (conv => (lhs; whnf))
  apply r_op
  exact rfl
  exact rfl
  apply g_call
  exact a_len_nils rfl
  apply r_op
  exact rfl
  exact rfl
  apply a_move
  (conv => (lhs; whnf))
  with_reducible refine runs_done ?_
  refine W.block ?_
  refine W.loop (fun k E s' => k = 0 ∧ s' = s ∧ Has [(0, .nils), (2, .ptr b2 0), (3, .int .u16 0), (4, .ptr b4 0), (6, .bool true), (123, .nils), (124, .int .i64 0), (125, .int .i64 0)] E) 0 ⟨rfl, rfl, by exact Has.by (by repeat (first | exact trivial | refine ⟨by first | trivial | exact Weak.refl _ | exact Weak.tok _ _ _ | exact Weak.of_eq (congrArg (AV.int _) (by omega)) | exact Weak.nils _ _ (.inr rfl), ?_⟩))⟩ ?_
  rintro k E s' ⟨rfl, rfl, hE⟩
  refine W.has hE ?_
  clear hE
  refine W.seq ?_
  refine W.regionL (by decide +kernel) rfl ?_
  apply r_op
  exact rfl
  exact rfl
  apply g_binOp
  exact a_binI rfl rfl rfl
  with_reducible refine runs_done ?_
  refine W.seq ?_
  refine W.condF rfl (by exact rfl) ?_
  refine W.exit ?_
  show W _ _ _ _ _ _ _
  refine W.seq ?_
  refine W.regionL (by decide +kernel) rfl ?_
  apply r_op
  exact rfl
  exact rfl
  apply a_assign
  (conv => (lhs; whnf))
  with_reducible refine runs_done ?_
  refine W.seq ?_
  refine W.seq ?_
  refine W.regionL (by decide +kernel) rfl ?_
  apply r_op
  exact rfl
  exact rfl
  apply a_move
  (conv => (lhs; whnf))
  apply r_op
  exact rfl
  exact rfl
  apply g_unOp
  exact a_not rfl
  apply r_op
  exact rfl
  exact rfl
  apply a_move
  (conv => (lhs; whnf))
  apply r_load
  exact rfl
  exact rfl
  exact rfl
  decide
  exact rfl
  assumption
  exact aLoadA rfl (by rfl) rfl
  apply r_callP
  exact rfl
  exact rfl
  exact rfl
  exact rfl
  exact rfl
  infer_instance
  exact hen
  apply r_op
  exact rfl
  exact rfl
  apply a_move
  (conv => (lhs; whnf))
  apply r_op
  exact rfl
  exact rfl
  apply a_move
  (conv => (lhs; whnf))
  apply r_callP
  exact rfl
  exact rfl
  exact rfl
  exact rfl
  exact rfl
  infer_instance
  exact heq
  apply r_op
  exact rfl
  exact rfl
  apply g_unOp
  exact a_not rfl
  apply r_op
  exact rfl
  exact rfl
  apply g_pick
  apply a_pickF rfl (by exact rfl)
  (conv => (lhs; whnf))
  with_reducible refine runs_done ?_
  refine W.condT rfl (by exact rfl) ?_
  refine W.seq ?_
  refine W.regionL (by decide +kernel) rfl ?_
  apply r_op
  exact rfl
  exact rfl
  apply g_build
  apply a_build
  exact EvP.nil
  simp only [aFill, List.getElem?_cons_zero, List.getElem?_cons_succ, AV.cells, List.length_cons, List.length_nil, AV.flat, AV.one, setL, List.set_cons_zero, List.set_cons_succ, Nat.reduceAdd, Nat.reduceLeDiff, Nat.reduceMul, and_self, if_true, ↓reduceIte, Nat.zero_add, Nat.le_refl, List.range, List.range.loop, List.map_cons, List.map_nil, Nat.zero_le]
  rfl
  apply r_store
  exact rfl
  exact rfl
  exact rfl
  decide
  infer_instance
  exact rfl
  assumption
  (conv => (lhs; whnf))
  exact rfl
  (conv => (lhs; whnf))
  exact rfl
  exact of_decide_eq_true rfl
  exact setL_whole rfl
  apply r_op
  exact rfl
  exact rfl
  apply a_assign
  (conv => (lhs; whnf))
  with_reducible refine runs_done ?_
  refine W.ret ?_
  show Q Exit.ret _ _
  refine post_q hQ (by apply res_cell; exact rfl; exact setBox_same; exact aLoadA rfl (by rfl) rfl; apply res_tmp; exact rfl; exact res_nil) (.inl rfl) (by refine le_setBox ?_ (by assumption); assumption) ?_
  (conv => (lhs; whnf))
  rfl
theorem known_any (w0 : World) (hL : Laid w0) : CallP Tryd.prog w0 13 [] (.bool true) := by
  refine CallP.start Tryd.func13 rfl Tryd.ntmps13 (by simp) fun σ Q hQ => ?_
  refine W.seq ?_
  refine W.regionL (by decide +kernel) rfl ?_
  apply r_op
  exact rfl
  exact rfl
  apply a_assign
  (conv => (lhs; whnf))
  with_reducible refine runs_done ?_
  refine W.seq ?_
  refine W.regionL (by decide +kernel) rfl ?_
  apply r_op
  exact rfl
  exact rfl
  apply g_build
  apply a_build
  apply EvP.cons (by (conv => (lhs; whnf)))
  apply EvP.cons (by (conv => (lhs; whnf)))
  apply EvP.cons (by (conv => (lhs; whnf)))
  apply EvP.cons (by (conv => (lhs; whnf)))
  apply EvP.cons (by (conv => (lhs; whnf)))
  exact EvP.nil
  simp only [aFill, List.getElem?_cons_zero, List.getElem?_cons_succ, AV.cells, List.length_cons, List.length_nil, AV.flat, AV.one, setL, List.set_cons_zero, List.set_cons_succ, Nat.reduceAdd, Nat.reduceLeDiff, Nat.reduceMul, and_self, if_true, ↓reduceIte, Nat.zero_add, Nat.le_refl, List.range, List.range.loop, List.map_cons, List.map_nil, Nat.zero_le]
  rfl
  apply r_callP
  exact rfl
  exact rfl
  exact rfl
  exact rfl
  exact rfl
  infer_instance
  exact enc_xA w0 hL
  apply r_op
  exact rfl
  exact rfl
  apply a_assign
  (conv => (lhs; whnf))
  with_reducible refine runs_done ?_
  refine W.seq ?_
  refine W.regionL (by decide +kernel) rfl ?_
  apply r_op
  exact rfl
  exact rfl
  apply a_move
  (conv => (lhs; whnf))
  apply r_callP
  exact rfl
  exact rfl
  exact rfl
  exact rfl
  exact rfl
  infer_instance
  exact dec_known w0 hL
  apply r_op
  exact rfl
  exact rfl
  apply a_move
  (conv => (lhs; whnf))
  apply r_op
  exact rfl
  exact rfl
  apply g_extract
  exact a_extract rfl rfl
  apply r_op
  exact rfl
  exact rfl
  apply g_extract
  exact a_extract rfl rfl
  apply r_alloc
  exact rfl
  exact rfl
  decide
  exact rfl
  (conv => (lhs; whnf))
  intro b1 hb1
  apply r_store
  exact rfl
  exact rfl
  exact rfl
  decide
  infer_instance
  exact rfl
  exact setBox_same
  (conv => (lhs; whnf))
  exact rfl
  (conv => (lhs; whnf))
  exact rfl
  exact of_decide_eq_true rfl
  exact setL_whole rfl
  apply r_op
  exact rfl
  exact rfl
  apply a_assign
  (conv => (lhs; whnf))
  with_reducible refine runs_done ?_
  refine W.seq ?_
  refine W.regionL (by decide +kernel) rfl ?_
  apply r_callP
  exact rfl
  exact rfl
  exact rfl
  exact rfl
  exact rfl
  infer_instance
  exact dec_nil w0 hL
  apply r_op
  exact rfl
  exact rfl
  apply a_move
  (conv => (lhs; whnf))
  apply r_op
  exact rfl
  exact rfl
  apply g_extract
  exact a_extract rfl rfl
  apply r_op
  exact rfl
  exact rfl
  apply g_extract
  exact a_extract rfl rfl
  apply r_alloc
  exact rfl
  exact rfl
  decide
  exact rfl
  (conv => (lhs; whnf))
  intro b1 hb1
  apply r_store
  exact rfl
  exact rfl
  exact rfl
  decide
  infer_instance
  exact rfl
  exact setBox_same
  (conv => (lhs; whnf))
  exact rfl
  (conv => (lhs; whnf))
  exact rfl
  exact of_decide_eq_true rfl
  exact setL_whole rfl
  apply r_op
  exact rfl
  exact rfl
  apply a_assign
  (conv => (lhs; whnf))
  with_reducible refine runs_done ?_
  refine W.seq ?_
  refine W.regionL (by decide +kernel) rfl ?_
  apply r_op
  exact rfl
  exact rfl
  apply a_move
  (conv => (lhs; whnf))
  apply r_op
  exact rfl
  exact rfl
  apply g_call
  exact a_len_slc rfl
  apply r_op
  exact rfl
  exact rfl
  apply g_binOp
  exact a_binI rfl rfl rfl
  apply r_op
  exact rfl
  exact rfl
  apply a_move
  (conv => (lhs; whnf))
  apply r_op
  exact rfl
  exact rfl
  apply a_move
  (conv => (lhs; whnf))
  apply r_op
  exact rfl
  exact rfl
  apply g_binOp
  exact a_binI rfl rfl rfl
  apply r_op
  exact rfl
  exact rfl
  apply g_pick
  apply a_pickT rfl (by exact rfl)
  (conv => (lhs; whnf))
  apply r_op
  exact rfl
  exact rfl
  apply a_move
  (conv => (lhs; whnf))
  apply r_op
  exact rfl
  exact rfl
  apply g_fieldAddr
  exact a_fieldAddrP rfl (by decide)
  apply r_load
  exact rfl
  exact rfl
  exact rfl
  decide
  exact rfl
  apply hb_ne (by exact ne_none' (by assumption))
  apply hb_ne (by exact ne_none' (by assumption))
  exact setBox_same
  exact aLoad1 rfl
  apply r_op
  exact rfl
  exact rfl
  apply g_binOp
  exact a_binI rfl rfl rfl
  apply r_op
  exact rfl
  exact rfl
  apply g_pick
  apply a_pickT rfl (by exact rfl)
  (conv => (lhs; whnf))
  apply r_op
  exact rfl
  exact rfl
  apply a_move
  (conv => (lhs; whnf))
  apply r_op
  exact rfl
  exact rfl
  apply g_fieldAddr
  exact a_fieldAddrP rfl (by decide)
  apply r_load
  exact rfl
  exact rfl
  exact rfl
  decide
  exact rfl
  apply hb_ne (by exact ne_none' (by assumption))
  apply hb_ne (by exact ne_none' (by assumption))
  exact setBox_same
  exact aLoad1 rfl
  apply r_op
  exact rfl
  exact rfl
  apply g_binOp
  exact a_binS rfl rfl rfl rfl
  apply r_op
  exact rfl
  exact rfl
  apply g_pick
  apply a_pickT rfl (by exact rfl)
  (conv => (lhs; whnf))
  apply r_op
  exact rfl
  exact rfl
  apply a_move
  (conv => (lhs; whnf))
  apply r_op
  exact rfl
  exact rfl
  apply a_move
  (conv => (lhs; whnf))
  apply r_op
  exact rfl
  exact rfl
  apply g_binOp
  exact a_binI rfl rfl rfl
  apply r_op
  exact rfl
  exact rfl
  apply g_pick
  apply a_pickT rfl (by exact rfl)
  (conv => (lhs; whnf))
  apply r_op
  exact rfl
  exact rfl
  apply a_assign
  (conv => (lhs; whnf))
  with_reducible refine runs_done ?_
  refine W.ret ?_
  show Q Exit.ret _ _
  refine post_q hQ (by apply res_tmp; exact rfl; exact res_nil) (.inl rfl) (by refine le_setBox ?_ (by exact none_in (none_in (by assumption))); refine le_setBox ?_ (by exact none_in (none_in (by assumption))); refine le_setBox ?_ (by assumption); refine le_setBox ?_ (by assumption); exact .refl _) ?_
  (conv => (lhs; whnf))
  rfl
end Go.Proofs.YtkbmkhhcppfcnaaDoor
end
section
set_option linter.unusedVariables false
set_option linter.unusedSimpArgs false
set_option maxRecDepth 100000
set_option maxHeartbeats 400000
namespace Go.Proofs.YtkbmkhhcppfcnaaDoor
open Go.Al Go.RowKit
def gL (c : List UInt8) (i : Nat) : Nat := (c.getD i 0).toNat
theorem gL_lt (c : List UInt8) (i : Nat) : gL c i < 256 := (c.getD i 0).toNat_lt
theorem g_any (w0 : World) (c : List UInt8) (t : Tok) (i : Nat) : CallP Tryd.prog w0 83 [.slc 1 (aBytes c) t, .int .i64 i] (.int .i64 (gL c i)) := by
  refine CallP.start Tryd.func83 rfl Tryd.ntmps83 (by simp) fun σ Q hQ => ?_
  by_cases h : i < c.length
  · have ga : c[i]? = some (c.getD i 0) := by simp [h]
    have hb := gL_lt c i
    refine W.seq ?_
    refine W.regionL (by decide +kernel) rfl ?_
    apply r_op
    exact rfl
    exact rfl
    apply a_assign
    (conv => (lhs; whnf))
    with_reducible refine runs_done ?_
    refine W.seq ?_
    refine W.seq ?_
    refine W.regionL (by decide +kernel) rfl ?_
    apply r_op
    exact rfl
    exact rfl
    apply a_move
    (conv => (lhs; whnf))
    apply r_op
    exact rfl
    exact rfl
    apply a_move
    (conv => (lhs; whnf))
    apply r_op
    exact rfl
    exact rfl
    apply g_call
    exact a_len_slc rfl
    apply r_op
    exact rfl
    exact rfl
    apply g_binOp
    exact a_binI rfl rfl rfl
    with_reducible refine runs_done ?_
    refine W.cond rfl (fun hc => ?_) (fun hc => ?_)
    refine W.seq ?_
    refine W.regionL (by decide +kernel) rfl ?_
    apply r_op
    exact rfl
    exact rfl
    apply a_move
    (conv => (lhs; whnf))
    apply r_op
    exact rfl
    exact rfl
    apply a_move
    (conv => (lhs; whnf))
    apply r_op
    exact rfl
    exact rfl
    apply g_indexAddr
    exact a_indexAddr rfl rfl (by decide) (by omega) (by exact get_map (by assumption))
    apply r_op
    exact rfl
    exact rfl
    apply g_load
    exact a_load1 rfl rfl
    apply r_op
    exact rfl
    exact rfl
    apply g_convert
    exact a_convI rfl
    apply r_op
    exact rfl
    exact rfl
    apply a_assign
    (conv => (lhs; whnf))
    with_reducible refine runs_done ?_
    refine W.ret ?_
    show Q Exit.ret _ _
    refine post_q hQ (by apply res_tmp; exact rfl; exact res_nil) (.inl rfl) (by exact .refl _) ?_
    (conv => (lhs; whnf))
    rotate_left
    refine W.skip ?_
    show W _ _ _ _ _ _ _
    refine W.seq ?_
    refine W.regionL (by decide +kernel) rfl ?_
    apply r_op
    exact rfl
    exact rfl
    apply a_assign
    (conv => (lhs; whnf))
    with_reducible refine runs_done ?_
    refine W.ret ?_
    show Q Exit.ret _ _
    refine post_q hQ (by apply res_tmp; exact rfl; exact res_nil) (.inl rfl) (by exact .refl _) ?_
    (conv => (lhs; whnf))
    rotate_left
    · show AV.int .i64 (IntKind.i64.wrap _) = _
      rw [IntWalk.i64_in _ (by have := (c.getD i 0).toNat_lt; omega)]; rfl
    · simp [length_aBytes] at hc; omega
  · refine W.seq ?_
    refine W.regionL (by decide +kernel) rfl ?_
    apply r_op
    exact rfl
    exact rfl
    apply a_assign
    (conv => (lhs; whnf))
    with_reducible refine runs_done ?_
    refine W.seq ?_
    refine W.seq ?_
    refine W.regionL (by decide +kernel) rfl ?_
    apply r_op
    exact rfl
    exact rfl
    apply a_move
    (conv => (lhs; whnf))
    apply r_op
    exact rfl
    exact rfl
    apply a_move
    (conv => (lhs; whnf))
    apply r_op
    exact rfl
    exact rfl
    apply g_call
    exact a_len_slc rfl
    apply r_op
    exact rfl
    exact rfl
    apply g_binOp
    exact a_binI rfl rfl rfl
    with_reducible refine runs_done ?_
    refine W.cond rfl (fun hc => ?_) (fun hc => ?_)
    refine W.seq ?_
    refine W.regionL (by decide +kernel) rfl ?_
    apply r_op
    exact rfl
    exact rfl
    apply a_move
    (conv => (lhs; whnf))
    apply r_op
    exact rfl
    exact rfl
    apply a_move
    (conv => (lhs; whnf))
    rotate_left
    refine W.skip ?_
    show W _ _ _ _ _ _ _
    refine W.seq ?_
    refine W.regionL (by decide +kernel) rfl ?_
    apply r_op
    exact rfl
    exact rfl
    apply a_assign
    (conv => (lhs; whnf))
    with_reducible refine runs_done ?_
    refine W.ret ?_
    show Q Exit.ret _ _
    refine post_q hQ (by apply res_tmp; exact rfl; exact res_nil) (.inl rfl) (by exact .refl _) ?_
    (conv => (lhs; whnf))
    rotate_left
    · simp [length_aBytes] at hc; omega
    · have : c.getD i 0 = 0 := by simp [List.getD, List.getElem?_eq_none (Nat.le_of_not_lt h)]
      rw [gL, this]; rfl
def letter (k i : Nat) : UInt8 := UInt8.ofNat (97 + (i + k) % 26)
def textL (k most : Nat) : List UInt8 := (List.range (k % (most + 1))).map (letter k)
theorem textL_len (k most : Nat) : (textL k most).length ≤ most := by simp [textL]; have := Nat.mod_lt k (show 0 < most + 1 by omega); omega
theorem letter_eq (k i : Nat) : Al.byteOf (97 + ((Al.byteOf (((i : Int) + (k : Int)) % 26)).toNat : Int)) = letter k i := by
  have e : (((i : Int) + (k : Int)) % 26 : Int) = ((i + k) % 26 : Nat) := by omega
  rw [e, byteOf_toNat _ (by omega)]
  show Al.byteOf ((97 + (i + k) % 26 : Nat) : Int) = _
  simp only [Al.byteOf, letter]
  have : ((97 + (i + k) % 26 : Nat) : Int) % 256 = (97 + (i + k) % 26 : Nat) := by omega
  rw [this]; rfl
theorem lawtext_any (w0 : World) (k most : Nat) (hk : k ≤ 1000000000) (hm : most ≤ 1000000000) : CallP Tryd.prog w0 82 [.int .i64 k, .int .i64 most] (.str (textL k most)) := by
  refine CallP.start Tryd.func82 rfl Tryd.ntmps82 (by simp) fun σ Q hQ => ?_
  refine W.seq ?_
  refine W.regionL (by decide +kernel) rfl ?_
  apply r_op
  exact rfl
  exact rfl
  apply a_assign
  (conv => (lhs; whnf))
  with_reducible refine runs_done ?_
  refine W.seq ?_
  refine W.regionL (by decide +kernel) rfl ?_
  apply r_op
  exact rfl
  exact rfl
  apply a_assign
  (conv => (lhs; whnf))
  with_reducible refine runs_done ?_
  refine W.seq ?_
  refine W.seq ?_
  refine W.regionL (by decide +kernel) rfl ?_
  apply r_op
  exact rfl
  exact rfl
  apply a_assign
  (conv => (lhs; whnf))
  with_reducible refine runs_done ?_
  refine W.block ?_
  refine W.loop (fun n E s => ∃ i : Nat, i ≤ k % (most + 1) ∧ n = k % (most + 1) - i ∧ s = σ ∧ Has [(0, .int .i64 k), (1, .int .i64 most), (5, .str ((List.range i).map (letter k))), (6, .int .i64 i)] E) (k % (most + 1)) ⟨0, Nat.zero_le _, rfl, rfl, by exact Has.by (by repeat (first | exact trivial | refine ⟨by first | trivial | exact Weak.refl _ | exact Weak.tok _ _ _ | exact Weak.of_eq (congrArg (AV.int _) (by omega)) | exact Weak.nils _ _ (.inr rfl), ?_⟩))⟩ ?_
  rintro n E s ⟨i, hi, rfl, rfl, hE⟩
  refine W.has hE ?_
  clear hE
  have hlt := Nat.mod_lt k (show 0 < most + 1 by omega)
  have hmod : ((k % (most + 1) : Nat) : Int) = (k : Int) % ((most : Int) + 1) := by simp
  have hlen : ((List.range i).map (letter k)).length = i := by simp
  refine W.seq ?_
  refine W.seq ?_
  refine W.regionL (by decide +kernel) rfl ?_
  apply r_op
  exact rfl
  exact rfl
  apply a_move
  (conv => (lhs; whnf))
  apply r_op
  exact rfl
  exact rfl
  apply a_move
  (conv => (lhs; whnf))
  apply r_op
  exact rfl
  exact rfl
  apply a_move
  (conv => (lhs; whnf))
  apply r_op
  exact rfl
  exact rfl
  apply g_binOp
  exact a_add64 rfl rfl (by omega)
  apply r_op
  exact rfl
  exact rfl
  apply g_binOp
  exact a_rem rfl rfl (by omega)
  apply r_op
  exact rfl
  exact rfl
  apply g_binOp
  exact a_binI rfl rfl rfl
  with_reducible refine runs_done ?_
  refine W.cond rfl (fun hc => ?_) (fun hc => ?_)
  refine W.skip ?_
  show W _ _ _ _ _ _ _
  refine W.seq ?_
  refine W.block ?_
  refine W.regionL (by decide +kernel) rfl ?_
  apply r_op
  exact rfl
  exact rfl
  apply a_move
  (conv => (lhs; whnf))
  apply r_op
  exact rfl
  exact rfl
  apply a_move
  (conv => (lhs; whnf))
  apply r_op
  exact rfl
  exact rfl
  apply a_move
  (conv => (lhs; whnf))
  apply r_op
  exact rfl
  exact rfl
  apply g_binOp
  exact a_add64 rfl rfl (by omega)
  apply r_op
  exact rfl
  exact rfl
  apply g_binOp
  exact a_rem rfl rfl (by omega)
  apply r_op
  exact rfl
  exact rfl
  apply g_convert
  exact a_convB rfl
  apply r_op
  exact rfl
  exact rfl
  apply g_binOp
  exact a_u8add rfl rfl
  apply r_op
  exact rfl
  exact rfl
  apply g_buildSlice
  apply a_build1
  (conv => (lhs; whnf))
  exact rfl
  exact rfl
  decide
  apply r_op
  exact rfl
  exact rfl
  apply g_convert
  exact a_bytesStrX rfl (by apply toB_cons; exact toB_nil)
  apply r_op
  exact rfl
  exact rfl
  apply g_binOp
  exact a_addS rfl rfl (by simp only [length_aBytes, List.length_append, List.length_cons, List.length_nil, List.length_map, List.length_range]; omega)
  apply r_op
  exact rfl
  exact rfl
  apply a_assign
  (conv => (lhs; whnf))
  with_reducible refine runs_done ?_
  refine W.regionL (by decide +kernel) rfl ?_
  apply r_op
  exact rfl
  exact rfl
  apply a_move
  (conv => (lhs; whnf))
  apply r_op
  exact rfl
  exact rfl
  apply g_binOp
  exact a_add64 rfl rfl (by omega)
  apply r_op
  exact rfl
  exact rfl
  apply a_assign
  (conv => (lhs; whnf))
  with_reducible refine runs_done ?_
  rotate_left
  refine W.exit ?_
  show W _ _ _ _ _ _ _
  refine W.seq ?_
  refine W.regionL (by decide +kernel) rfl ?_
  apply r_op
  exact rfl
  exact rfl
  apply a_move
  (conv => (lhs; whnf))
  apply r_op
  exact rfl
  exact rfl
  apply a_assign
  (conv => (lhs; whnf))
  with_reducible refine runs_done ?_
  refine W.ret ?_
  show Q Exit.ret _ _
  refine post_q hQ (by apply res_tmp; exact rfl; exact res_nil) (.inl rfl) (by exact .refl _) ?_
  (conv => (lhs; whnf))
  rotate_left
  · have h1 : i < k % (most + 1) := by rw [← hmod] at hc; simp only [decide_eq_true_eq] at hc; omega
    refine ⟨k % (most + 1) - (i + 1), by omega, i + 1, by omega, rfl, rfl, ?_⟩
    rw [List.range_succ, List.map_append]
    simp only [List.map_cons, List.map_nil]
    rw [← letter_eq]
    exact Has.by (by repeat (first | exact trivial | refine ⟨by first | trivial | exact Weak.refl _ | exact Weak.tok _ _ _ | exact Weak.of_eq (congrArg (AV.int _) (by omega)) | exact Weak.nils _ _ (.inr rfl), ?_⟩))
  · have h1 : i = k % (most + 1) := by rw [← hmod] at hc; simp only [decide_eq_false_iff_not] at hc; omega
    rw [h1]; rfl
end Go.Proofs.YtkbmkhhcppfcnaaDoor
end
section
set_option linter.unusedVariables false
set_option linter.unusedSimpArgs false
set_option maxRecDepth 100000
set_option maxHeartbeats 2000000
namespace Go.Proofs.YtkbmkhhcppfcnaaDoor
open Go.Al Go.RowKit
structure Grown (id next : Nat) (x : Sub) : Prop where
  fits : Fits x
  id : x.id = id
  most : 1 ≤ x.most ∧ x.most ≤ 9
  lease : 1 ≤ x.lease ∧ x.lease ≤ 1000
  nacks : x.acks.length ≤ 20
  nqueue : x.queue.length ≤ 30
def subC (x : Sub) (ta tq : Tok) : List AV := [.int .i64 x.id, .str x.name, .str x.topic, .str x.want, .int .i64 x.lease, .int .i64 x.most, .int .i64 x.floor, .slc 1 (x.acks.map (.int .i64)) ta, .slc 8 (x.queue.map eMsg) tq, .str x.note]
def msgC (m : Msg) : List AV := [.int .i64 m.seq, .str m.body, .str m.attr, .int .i64 m.tries, .int .i64 m.until_, .bool m.dead, .str m.why, .int .i64 m.prio]
theorem weak_sub (x : Sub) (ta tq : Tok) : Weak (eSub x) (.agg (subC x ta tq)) := .agg (.cons (.refl _) (.cons (.refl _) (.cons (.refl _) (.cons (.refl _) (.cons (.refl _) (.cons (.refl _) (.cons (.refl _) (.cons (.tok _ _ _) (.cons (.tok _ _ _) (.cons (.refl _) .nil)))))))))) (by simp [AV.one, eInts, eMsgs])
def z10 : List AV := [.int .i64 0, .str [], .str [], .str [], .int .i64 0, .int .i64 0, .int .i64 0, .nils, .nils, .str []]
structure InSub (σ s : St) (b8 bx : Nat) (x : Sub) (ta tq : Tok) : Prop where
  r : s.box b8 = some z10
  b : s.box bx = some (subC x ta tq)
  ma : Moves σ .full s ta
  mq : Moves σ .full s tq
  d : ∀ p, tq = .own p → ta ≠ .own p
theorem InSub.set {σ s : St} {b8 bx : Nat} {x x' : Sub} {ta tq : Tok} (h : InSub σ s b8 bx x ta tq) (hne : b8 ≠ bx) (hbx : σ.box bx = none) : InSub σ (s.setBox bx (subC x' ta tq)) b8 bx x' ta tq :=
  ⟨hb_ne hne h.r, setBox_same, h.ma.new hbx, h.mq.new hbx, h.d⟩
theorem InSub.other {σ s : St} {b8 bx b : Nat} {x : Sub} {ta tq : Tok} {cs : List AV} (h : InSub σ s b8 bx x ta tq) (h8 : b8 ≠ b) (hx : bx ≠ b) (hb : σ.box b = none) : InSub σ (s.setBox b cs) b8 bx x ta tq :=
  ⟨hb_ne h8 h.r, hb_ne hx h.b, h.ma.new hb, h.mq.new hb, h.d⟩
theorem InSub.acks {σ s σ1 : St} {b8 bx : Nat} {x x' : Sub} {ta tq tk : Tok} (h : InSub σ s b8 bx x ta tq) (hne : b8 ≠ bx) (hbx : σ.box bx = none) (hm : Moves s ta σ1 tk) : InSub σ (σ1.setBox bx (subC x' tk tq)) b8 bx x' tk tq := by
  obtain ⟨h1, h2, h3⟩ := Moves.two h.ma h.mq h.d hm
  exact ⟨hb_ne hne (hm.box _ _ h.r), setBox_same, h1.new hbx, h2.new hbx, h3⟩
theorem InSub.queue {σ s σ1 : St} {b8 bx : Nat} {x x' : Sub} {ta tq tk : Tok} (h : InSub σ s b8 bx x ta tq) (hne : b8 ≠ bx) (hbx : σ.box bx = none) (hm : Moves s tq σ1 tk) : InSub σ (σ1.setBox bx (subC x' ta tk)) b8 bx x' ta tk := by
  obtain ⟨h1, h2, h3⟩ := Moves.two h.mq h.ma (fun p e e' => h.d p e' e) hm
  exact ⟨hb_ne hne (hm.box _ _ h.r), setBox_same, h2.new hbx, h1.new hbx, fun p e e' => h3 p e' e⟩
theorem sub_any (w0 : World) (c : List UInt8) (t : Tok) (id clock next : Nat) (hc : c.length ≤ 9223372036854775807) (hid : id ≤ 1000) (hclock : clock ≤ 100000000) (hnext : 1 ≤ next ∧ next ≤ 100000) (σ : St) :
    CallW Tryd.prog w0 33 [.slc 1 (aBytes c) t, .int .i64 id, .int .i64 clock, .int .i64 next] σ (fun r s => ∃ x, r = eSub x ∧ Grown id next x ∧ s = σ) := by
  refine CallW.start Tryd.func33 rfl Tryd.ntmps33 (by simp) fun Q hQ => ?_
  have g0 := gL_lt c 0
  have g1 := gL_lt c 1
  have g2 := gL_lt c 2
  have g3 := gL_lt c 3
  have g4 := gL_lt c 4
  have hm0 : gL c 0 % 20 ≤ 19 := by omega
  have hlt0 := textL_len (gL c 0) 19
  refine W.seq ?_
  refine W.regionL (by decide +kernel) rfl ?_
  apply r_alloc
  exact rfl
  exact rfl
  decide
  exact rfl
  (conv => (lhs; whnf))
  intro b1 hb1
  refine runs_done ?_
  show W _ _ _ _ _ _ _
  obtain ⟨tp, htp, htl⟩ : ∃ v : List UInt8, [AV.str [35], .str [97], .str [97, 47, 43], .str [98, 47, 35]][((gL c 1 : Int) % 4).toNat]? = some (.str v) ∧ v.length ≤ 1000 := by
    have h : gL c 1 % 4 < 4 := Nat.mod_lt _ (by decide)
    rw [show ((gL c 1 : Int) % 4).toNat = gL c 1 % 4 by omega]
    generalize gL c 1 % 4 = q at h
    match q, h with
    | 0, _ => exact ⟨_, rfl, by decide⟩
    | 1, _ => exact ⟨_, rfl, by decide⟩
    | 2, _ => exact ⟨_, rfl, by decide⟩
    | 3, _ => exact ⟨_, rfl, by decide⟩
  obtain ⟨wn, hwn, hwl⟩ : ∃ v : List UInt8, [AV.str [], .str [97, 61, 49], .str [97, 61, 49, 44, 98, 61, 50]][((gL c 1 : Int) / 4 % 3).toNat]? = some (.str v) ∧ v.length ≤ 1000 := by
    have h : gL c 1 / 4 % 3 < 3 := Nat.mod_lt _ (by decide)
    rw [show ((gL c 1 : Int) / 4 % 3).toNat = gL c 1 / 4 % 3 by omega]
    generalize gL c 1 / 4 % 3 = q at h
    match q, h with
    | 0, _ => exact ⟨_, rfl, by decide⟩
    | 1, _ => exact ⟨_, rfl, by decide⟩
    | 2, _ => exact ⟨_, rfl, by decide⟩
  refine W.seq ?_
  refine W.regionDK 0 [] Ty.mixed (by decide +kernel) (by decide +kernel) rfl ?_
  apply r_op
  exact rfl
  exact rfl
  apply a_move
  (conv => (lhs; whnf))
  apply r_op
  exact rfl
  exact rfl
  apply a_move
  (conv => (lhs; whnf))
  apply r_callP
  exact rfl
  exact rfl
  exact rfl
  exact rfl
  exact rfl
  infer_instance
  exact g_any w0 c t 0
  apply r_callP
  exact rfl
  exact rfl
  exact rfl
  exact rfl
  exact rfl
  infer_instance
  exact lawtext_any w0 (gL c 0) 19 (by omega) (by omega)
  apply r_op
  exact rfl
  exact rfl
  apply g_binOp
  exact a_addS rfl rfl (by simp only [length_aBytes, List.length_append, List.length_cons, List.length_nil, List.length_map, List.length_range]; omega)
  apply r_op
  exact rfl
  exact rfl
  apply g_buildSlice
  apply a_buildN
  apply EvP.cons (by (conv => (lhs; whnf)))
  apply EvP.cons (by (conv => (lhs; whnf)))
  apply EvP.cons (by (conv => (lhs; whnf)))
  apply EvP.cons (by (conv => (lhs; whnf)))
  exact EvP.nil
  (conv => (lhs; whnf))
  exact rfl
  exact rfl
  decide
  apply r_op
  exact rfl
  exact rfl
  apply a_move
  (conv => (lhs; whnf))
  apply r_callP
  exact rfl
  exact rfl
  exact rfl
  exact rfl
  exact rfl
  infer_instance
  exact g_any w0 c t 1
  apply r_op
  exact rfl
  exact rfl
  apply g_binOp
  exact a_rem rfl rfl (by omega)
  apply r_op
  exact rfl
  exact rfl
  apply g_indexAddr
  exact a_indexAddr rfl rfl (by decide) (by omega) (by assumption)
  apply r_op
  exact rfl
  exact rfl
  apply g_load
  exact a_load1 rfl rfl
  apply r_op
  exact rfl
  exact rfl
  apply g_buildSlice
  apply a_buildN
  apply EvP.cons (by (conv => (lhs; whnf)))
  apply EvP.cons (by (conv => (lhs; whnf)))
  apply EvP.cons (by (conv => (lhs; whnf)))
  exact EvP.nil
  (conv => (lhs; whnf))
  exact rfl
  exact rfl
  decide
  apply r_op
  exact rfl
  exact rfl
  apply a_move
  (conv => (lhs; whnf))
  apply r_callP
  exact rfl
  exact rfl
  exact rfl
  exact rfl
  exact rfl
  infer_instance
  exact g_any w0 c t 1
  apply r_op
  exact rfl
  exact rfl
  apply g_binOp
  exact a_quo64 rfl rfl (by omega)
  apply r_op
  exact rfl
  exact rfl
  apply g_binOp
  exact a_rem rfl rfl (by omega)
  apply r_op
  exact rfl
  exact rfl
  apply g_indexAddr
  exact a_indexAddr rfl rfl (by decide) (by omega) (by assumption)
  apply r_op
  exact rfl
  exact rfl
  apply g_load
  exact a_load1 rfl rfl
  apply r_op
  exact rfl
  exact rfl
  apply a_move
  (conv => (lhs; whnf))
  apply r_callP
  exact rfl
  exact rfl
  exact rfl
  exact rfl
  exact rfl
  infer_instance
  exact g_any w0 c t 2
  apply r_op
  exact rfl
  exact rfl
  apply g_binOp
  exact a_mul64 rfl rfl (by omega)
  apply r_op
  exact rfl
  exact rfl
  apply g_binOp
  exact a_add64 rfl rfl (by omega)
  apply r_op
  exact rfl
  exact rfl
  apply a_move
  (conv => (lhs; whnf))
  apply r_callP
  exact rfl
  exact rfl
  exact rfl
  exact rfl
  exact rfl
  infer_instance
  exact g_any w0 c t 3
  apply r_op
  exact rfl
  exact rfl
  apply g_binOp
  exact a_rem rfl rfl (by omega)
  apply r_op
  exact rfl
  exact rfl
  apply g_binOp
  exact a_add64 rfl rfl (by omega)
  apply r_op
  exact rfl
  exact rfl
  apply a_move
  (conv => (lhs; whnf))
  apply r_callP
  exact rfl
  exact rfl
  exact rfl
  exact rfl
  exact rfl
  infer_instance
  exact g_any w0 c t 4
  apply r_op
  exact rfl
  exact rfl
  apply a_move
  (conv => (lhs; whnf))
  apply r_op
  exact rfl
  exact rfl
  apply g_binOp
  exact a_rem rfl rfl (by omega)
  apply r_op
  exact rfl
  exact rfl
  apply g_build
  apply a_build
  apply EvP.cons (by (conv => (lhs; whnf)))
  apply EvP.cons (by (conv => (lhs; whnf)))
  apply EvP.cons (by (conv => (lhs; whnf)))
  apply EvP.cons (by (conv => (lhs; whnf)))
  apply EvP.cons (by (conv => (lhs; whnf)))
  apply EvP.cons (by (conv => (lhs; whnf)))
  apply EvP.cons (by (conv => (lhs; whnf)))
  exact EvP.nil
  simp only [aFill, List.getElem?_cons_zero, List.getElem?_cons_succ, AV.cells, List.length_cons, List.length_nil, AV.flat, AV.one, setL, List.set_cons_zero, List.set_cons_succ, Nat.reduceAdd, Nat.reduceLeDiff, Nat.reduceMul, and_self, if_true, ↓reduceIte, Nat.zero_add, Nat.le_refl, List.range, List.range.loop, List.map_cons, List.map_nil, Nat.zero_le]
  rfl
  apply r_alloc
  exact rfl
  exact rfl
  decide
  exact rfl
  (conv => (lhs; whnf))
  intro b1 hb1
  apply r_store
  exact rfl
  exact rfl
  exact rfl
  decide
  infer_instance
  exact rfl
  exact setBox_same
  (conv => (lhs; whnf))
  exact rfl
  (conv => (lhs; whnf))
  exact rfl
  exact of_decide_eq_true rfl
  exact setL_whole rfl
  refine runs_done ?_
  show W _ _ _ _ _ _ _
  rename_i b8 hb8
  have hne : b8 ≠ b1 := ne_none' hb1
  have hbx : σ.box b1 = none := none_in hb1
  generalize b1 = bx at hne hbx hb1 ⊢
  generalize hx1 : (⟨id, [110] ++ textL (gL c 0) 19, tp, wn, 1 + (gL c 2 : Int) * 3, 1 + (gL c 3 : Int) % 9, (gL c 4 : Int) % (next : Int), [], [], []⟩ : Sub) = x1
  have hs1 : InSub σ (((σ.setBox b8 z10).setBox bx z10).setBox bx (subC x1 .full .full)) b8 bx x1 .full .full := by
    rw [setBox_setBox]
    exact ⟨hb_ne hne setBox_same, setBox_same, ((Moves.full σ).new hb8).new hbx, ((Moves.full σ).new hb8).new hbx, fun p e => by cases e⟩
  have hgr : Grown id next x1 := by
    subst hx1
    refine ⟨⟨by simp; omega, htl, hwl, by simp, by simp, by simp, ?_, by simp, by simp⟩, rfl, ?_, ?_, by simp, by simp⟩
    · unfold nat64
      have := Int.emod_nonneg (gL c 4 : Int) (show (next : Int) ≠ 0 by omega)
      have := Int.emod_lt_of_pos (gL c 4 : Int) (show 0 < (next : Int) by omega)
      exact ⟨by assumption, by show (gL c 4 : Int) % (next : Int) ≤ _; omega⟩
    · show 1 ≤ 1 + (gL c 3 : Int) % 9 ∧ 1 + (gL c 3 : Int) % 9 ≤ 9; omega
    · show 1 ≤ 1 + (gL c 2 : Int) * 3 ∧ 1 + (gL c 2 : Int) * 3 ≤ 1000; omega
  have hfl : 0 ≤ x1.floor ∧ x1.floor < next := by
    subst hx1
    exact ⟨Int.emod_nonneg _ (by omega), Int.emod_lt_of_pos _ (by omega)⟩
  refine W.weakBox (b := bx) (ds := subC x1 .full .full) setBox_same ?_ ?_
  · subst hx1
    exact .cons (.refl _) (.cons (.refl _) (.cons (.refl _) (.cons (.refl _) (.cons (.refl _) (.cons (.refl _) (.cons (.refl _) (.cons (.nils 1 .full (.inr rfl)) (.cons (.nils 8 .full (.inr rfl)) (.cons (.refl _) .nil)))))))))
  rw [setBox_setBox, setBox_setBox]
  rw [setBox_setBox] at hs1
  change W Tryd.prog w0 196 _ _ _ ((σ.setBox b8 z10).setBox bx (subC x1 .full .full))
  generalize (σ.setBox b8 z10).setBox bx (subC x1 .full .full) = s1 at hs1 ⊢
  have hlt5 := textL_len (gL c 5) 30
  have g5 := gL_lt c 5
  refine W.seq ?_
  refine W.meet (fun E s => ∃ x, Grown id next x ∧ (0 ≤ x.floor ∧ x.floor < next) ∧ InSub σ s b8 bx x .full .full ∧ Has [(0, .slc 1 (aBytes c) t), (2, .int .i64 clock), (3, .int .i64 next), (8, .ptr b8 0), (9, .ptr bx 0)] E) ?_ ?_
  · have hb1 := hs1.b
    refine W.seq ?_
    refine W.regionL (by decide +kernel) rfl ?_
    apply r_op
    exact rfl
    exact rfl
    apply a_move
    (conv => (lhs; whnf))
    apply r_callP
    exact rfl
    exact rfl
    exact rfl
    exact rfl
    exact rfl
    infer_instance
    exact g_any w0 c t 5
    apply r_op
    exact rfl
    exact rfl
    apply g_binOp
    exact a_binI rfl rfl rfl
    with_reducible refine runs_done ?_
    refine W.cond rfl (fun hc => ?_) (fun hc => ?_)
    · refine W.regionL (by decide +kernel) rfl ?_
      apply r_op
      exact rfl
      exact rfl
      apply a_move
      (conv => (lhs; whnf))
      apply r_callP
      exact rfl
      exact rfl
      exact rfl
      exact rfl
      exact rfl
      infer_instance
      exact g_any w0 c t 5
      apply r_callP
      exact rfl
      exact rfl
      exact rfl
      exact rfl
      exact rfl
      infer_instance
      exact lawtext_any w0 (gL c 5) 30 (by omega) (by omega)
      apply r_op
      exact rfl
      exact rfl
      apply g_fieldAddr
      exact a_fieldAddrP rfl (by decide)
      apply r_store
      exact rfl
      exact rfl
      exact rfl
      decide
      infer_instance
      exact rfl
      assumption
      (conv => (lhs; whnf))
      exact rfl
      (conv => (lhs; whnf))
      exact rfl
      exact of_decide_eq_true rfl
      exact rfl
      with_reducible refine runs_done ?_
      exact ⟨{ x1 with note := textL (gL c 5) 30 }, ⟨⟨hgr.fits.name, hgr.fits.topic, hgr.fits.want, by show (textL (gL c 5) 30).length ≤ 1000; omega, hgr.fits.nacks, hgr.fits.nqueue, hgr.fits.floor, hgr.fits.acks, hgr.fits.queue⟩, hgr.id, hgr.most, hgr.lease, hgr.nacks, hgr.nqueue⟩, hfl, hs1.set (x' := { x1 with note := textL (gL c 5) 30 }) hne hbx, by exact Has.by (by repeat (first | exact trivial | refine ⟨by first | trivial | exact Weak.refl _ | exact Weak.tok _ _ _ | exact Weak.of_eq (congrArg (AV.int _) (by omega)) | exact Weak.nils _ _ (.inr rfl), ?_⟩))⟩
    · refine W.skip ?_
      exact ⟨x1, hgr, hfl, hs1, by exact Has.by (by repeat (first | exact trivial | refine ⟨by first | trivial | exact Weak.refl _ | exact Weak.tok _ _ _ | exact Weak.of_eq (congrArg (AV.int _) (by omega)) | exact Weak.nils _ _ (.inr rfl), ?_⟩))⟩
  · rintro E s ⟨x, hgr, hfl, hs, hE⟩
    refine W.has hE ?_
    clear hE hs1
    have hb := hs.b
    refine W.seq ?_
    refine W.regionL (by decide +kernel) rfl ?_
    apply r_op
    exact rfl
    exact rfl
    apply g_fieldAddr
    exact a_fieldAddrP rfl (by decide)
    apply r_load
    exact rfl
    exact rfl
    exact rfl
    decide
    exact rfl
    assumption
    exact aLoad1 rfl
    apply r_op
    exact rfl
    exact rfl
    apply a_assign
    (conv => (lhs; whnf))
    refine runs_done ?_
    show W _ _ _ _ _ _ _
    refine W.seq ?_
    refine W.meet (fun E s => ∃ x ta tq, Grown id next x ∧ InSub σ s b8 bx x ta tq ∧ Has [(8, .ptr b8 0), (9, .ptr bx 0)] E) ?_ ?_
    · refine W.seq ?_
      refine W.regionL (by decide +kernel) rfl ?_
      apply r_op
      exact rfl
      exact rfl
      apply a_assign
      (conv => (lhs; whnf))
      with_reducible refine runs_done ?_
      refine W.block ?_
      refine W.loop (fun k E s => ∃ (i : Nat) (seq : Int) (x : Sub) (ta tq : Tok), k = 100 - i ∧ 6 ≤ i ∧ i ≤ 69 ∧ 0 ≤ seq ∧ seq < next ∧ Grown id next x ∧ InSub σ s b8 bx x ta tq ∧ Has [(0, .slc 1 (aBytes c) t), (2, .int .i64 clock), (3, .int .i64 next), (8, .ptr b8 0), (9, .ptr bx 0), (10, .int .i64 seq), (11, .int .i64 i)] E) 94 ⟨6, x.floor, x, .full, .full, rfl, by omega, by omega, by omega, by omega, hgr, hs, by exact Has.by (by repeat (first | exact trivial | refine ⟨by first | trivial | exact Weak.refl _ | exact Weak.tok _ _ _ | exact Weak.of_eq (congrArg (AV.int _) (by omega)) | exact Weak.nils _ _ (.inr rfl), ?_⟩))⟩ ?_
      clear hfl hs hb hgr x
      rintro k E s ⟨i, seq, x, ta, tq, rfl, hi6, hi69, hs0, hsn, hgr, hs, hE⟩
      refine W.has hE ?_
      clear hE
      have hb := hs.b
      have hla := length_aBytes c
      by_cases hlen : ¬ (i + 3 < c.length)
      · have d1 : decide ((i : Int) + 3 < ((aBytes c).length : Int)) = false := decide_eq_false (by rw [hla]; omega)
        refine W.seq ?_
        refine W.seq ?_
        refine W.regionL (by decide +kernel) rfl ?_
        apply r_op
        exact rfl
        exact rfl
        apply a_move
        (conv => (lhs; whnf))
        apply r_op
        exact rfl
        exact rfl
        apply g_binOp
        exact a_add64 rfl rfl (by omega)
        apply r_op
        exact rfl
        exact rfl
        apply a_move
        (conv => (lhs; whnf))
        apply r_op
        exact rfl
        exact rfl
        apply g_call
        exact a_len_slc rfl
        apply r_op
        exact rfl
        exact rfl
        apply g_binOp
        exact a_binI rfl rfl rfl
        apply r_op
        exact rfl
        exact rfl
        apply a_move
        (conv => (lhs; whnf))
        apply q_skip
        exact rfl
        exact want_f rfl rfl rfl (by assumption)
        apply q_skip
        exact rfl
        exact want_f rfl rfl rfl (by assumption)
        apply r_op
        exact rfl
        exact rfl
        apply g_pick
        apply a_pickF rfl (by assumption)
        (conv => (lhs; whnf))
        with_reducible refine runs_done ?_
        refine W.condF rfl (by exact rfl) ?_
        refine W.exit ?_
        exact ⟨x, ta, tq, hgr, hs, by exact Has.by (by repeat (first | exact trivial | refine ⟨by first | trivial | exact Weak.refl _ | exact Weak.tok _ _ _ | exact Weak.of_eq (congrArg (AV.int _) (by omega)) | exact Weak.nils _ _ (.inr rfl), ?_⟩))⟩
      have hlen := Decidable.of_not_not hlen
      have d1 : decide ((i : Int) + 3 < ((aBytes c).length : Int)) = true := decide_eq_true (by rw [hla]; omega)
      by_cases h66 : ¬ (i < 66)
      · have d2 : decide ((i : Int) < 66) = false := decide_eq_false (by omega)
        refine W.seq ?_
        refine W.seq ?_
        refine W.regionL (by decide +kernel) rfl ?_
        apply r_op
        exact rfl
        exact rfl
        apply a_move
        (conv => (lhs; whnf))
        apply r_op
        exact rfl
        exact rfl
        apply g_binOp
        exact a_add64 rfl rfl (by omega)
        apply r_op
        exact rfl
        exact rfl
        apply a_move
        (conv => (lhs; whnf))
        apply r_op
        exact rfl
        exact rfl
        apply g_call
        exact a_len_slc rfl
        apply r_op
        exact rfl
        exact rfl
        apply g_binOp
        exact a_binI rfl rfl rfl
        apply r_op
        exact rfl
        exact rfl
        apply a_move
        (conv => (lhs; whnf))
        apply r_op
        exact rfl
        exact want_t rfl rfl rfl (by assumption)
        apply a_move
        (conv => (lhs; whnf))
        apply r_op
        exact rfl
        exact want_t rfl rfl rfl (by assumption)
        apply g_binOp
        exact a_binI rfl rfl rfl
        apply r_op
        exact rfl
        exact rfl
        apply g_pick
        apply a_pickT rfl (by assumption)
        (conv => (lhs; whnf))
        with_reducible refine runs_done ?_
        refine W.condF rfl (by assumption) ?_
        refine W.exit ?_
        exact ⟨x, ta, tq, hgr, hs, by exact Has.by (by repeat (first | exact trivial | refine ⟨by first | trivial | exact Weak.refl _ | exact Weak.tok _ _ _ | exact Weak.of_eq (congrArg (AV.int _) (by omega)) | exact Weak.nils _ _ (.inr rfl), ?_⟩))⟩
      have h66 := Decidable.of_not_not h66
      have d2 : decide ((i : Int) < 66) = true := decide_eq_true (by omega)
      obtain ⟨q0, gi0⟩ : ∃ q : UInt8, c[((i : Int)).toNat]? = some q := ⟨c[i]'(by omega), by simp⟩
      obtain ⟨q1, gi1⟩ : ∃ q : UInt8, c[((i : Int) + 1).toNat]? = some q := ⟨c[i + 1]'(by omega), by rw [show ((i : Int) + 1).toNat = i + 1 by omega]; simp⟩
      obtain ⟨q2, gi2⟩ : ∃ q : UInt8, c[((i : Int) + 2).toNat]? = some q := ⟨c[i + 2]'(by omega), by rw [show ((i : Int) + 2).toNat = i + 2 by omega]; simp⟩
      obtain ⟨q3, gi3⟩ : ∃ q : UInt8, c[((i : Int) + 3).toNat]? = some q := ⟨c[i + 3]'(by omega), by rw [show ((i : Int) + 3).toNat = i + 3 by omega]; simp⟩
      have l0 := q0.toNat_lt
      have l1 := q1.toNat_lt
      have l2 := q2.toNat_lt
      have l3 := q3.toNat_lt
      have w0' : IntKind.i64.wrap ((q0.toNat : Int) % 3) = (q0.toNat : Int) % 3 := IntWalk.i64_in _ (by omega)
      have w1 : IntKind.i64.wrap (q1.toNat : Int) = (q1.toNat : Int) := IntWalk.i64_in _ (by omega)
      have w2 : IntKind.i64.wrap (q2.toNat : Int) = (q2.toNat : Int) := IntWalk.i64_in _ (by omega)
      have w3 : IntKind.i64.wrap (q3.toNat : Int) = (q3.toNat : Int) := IntWalk.i64_in _ (by omega)
      have hmost := hgr.most
      have hlease := hgr.lease
      have hml := Int.emod_nonneg (IntKind.i64.wrap (q1.toNat : Int)) (show x.lease ≠ 0 by omega)
      have hml2 := Int.emod_lt_of_pos (IntKind.i64.wrap (q1.toNat : Int)) (show 0 < x.lease by omega)
      have hmm := Int.emod_nonneg (IntKind.i64.wrap (q3.toNat : Int)) (show x.most ≠ 0 by omega)
      have hmm2 := Int.emod_lt_of_pos (IntKind.i64.wrap (q3.toNat : Int)) (show 0 < x.most by omega)
      have ht60 : CallP Tryd.prog w0 82 [.int .i64 (IntKind.i64.wrap (q1.toNat : Int)), .int .i64 60] (.str (textL q1.toNat 60)) := by
        rw [w1]; exact lawtext_any w0 q1.toNat 60 (by omega) (by omega)
      have hl60 := textL_len q1.toNat 60
      obtain ⟨at_, hat, hatl⟩ : ∃ v : List UInt8, [AV.str [], .str [97, 61, 49], .str [98, 61, 50]][((q2.toNat : Int) % 3).toNat]? = some (.str v) ∧ v.length ≤ 1000 := by
        have h : q2.toNat % 3 < 3 := Nat.mod_lt _ (by decide)
        rw [show ((q2.toNat : Int) % 3).toNat = q2.toNat % 3 by omega]
        generalize q2.toNat % 3 = q at h
        match q, h with
        | 0, _ => exact ⟨_, rfl, by decide⟩
        | 1, _ => exact ⟨_, rfl, by decide⟩
        | 2, _ => exact ⟨_, rfl, by decide⟩
      obtain ⟨wy, hwy⟩ : ∃ v : List UInt8, [AV.str [110, 97, 99, 107], .str [116, 105, 109, 101]][((q1.toNat : Int) % 2).toNat]? = some (.str v) := by
        have h : q1.toNat % 2 < 2 := Nat.mod_lt _ (by decide)
        rw [show ((q1.toNat : Int) % 2).toNat = q1.toNat % 2 by omega]
        generalize q1.toNat % 2 = q at h
        match q, h with
        | 0, _ => exact ⟨_, rfl⟩
        | 1, _ => exact ⟨_, rfl⟩
      have hnq := hgr.nqueue
      have hna := hgr.nacks
      refine W.seq ?_
      refine W.seq ?_
      refine W.regionL (by decide +kernel) rfl ?_
      apply r_op
      exact rfl
      exact rfl
      apply a_move
      (conv => (lhs; whnf))
      apply r_op
      exact rfl
      exact rfl
      apply g_binOp
      exact a_add64 rfl rfl (by omega)
      apply r_op
      exact rfl
      exact rfl
      apply a_move
      (conv => (lhs; whnf))
      apply r_op
      exact rfl
      exact rfl
      apply g_call
      exact a_len_slc rfl
      apply r_op
      exact rfl
      exact rfl
      apply g_binOp
      exact a_binI rfl rfl rfl
      apply r_op
      exact rfl
      exact rfl
      apply a_move
      (conv => (lhs; whnf))
      apply r_op
      exact rfl
      exact want_t rfl rfl rfl (by assumption)
      apply a_move
      (conv => (lhs; whnf))
      apply r_op
      exact rfl
      exact want_t rfl rfl rfl (by assumption)
      apply g_binOp
      exact a_binI rfl rfl rfl
      apply r_op
      exact rfl
      exact rfl
      apply g_pick
      apply a_pickT rfl (by assumption)
      (conv => (lhs; whnf))
      with_reducible refine runs_done ?_
      refine W.condT rfl (by assumption) ?_
      refine W.skip ?_
      show W _ _ _ _ _ _ _
      refine W.seq ?_
      refine W.block ?_
      refine W.seq ?_
      refine W.regionL (by decide +kernel) rfl ?_
      apply r_op
      exact rfl
      exact rfl
      apply a_move
      (conv => (lhs; whnf))
      apply r_op
      exact rfl
      exact rfl
      apply a_move
      (conv => (lhs; whnf))
      apply r_op
      exact rfl
      exact rfl
      apply a_move
      (conv => (lhs; whnf))
      apply r_op
      exact rfl
      exact rfl
      apply g_indexAddr
      exact a_indexAddr rfl rfl (by decide) (by omega) (by exact get_bytes (by assumption))
      apply r_op
      exact rfl
      exact rfl
      apply g_load
      exact a_load1 rfl rfl
      apply r_op
      exact rfl
      exact rfl
      apply g_binOp
      exact a_rem rfl rfl (by omega)
      apply r_op
      exact rfl
      exact rfl
      apply g_convert
      exact a_convI rfl
      apply r_op
      exact rfl
      exact rfl
      apply g_binOp
      exact a_add64 rfl rfl (by omega)
      apply r_op
      exact rfl
      exact rfl
      apply g_binOp
      exact a_add64 rfl rfl (by omega)
      apply r_op
      exact rfl
      exact rfl
      apply a_assign
      (conv => (lhs; whnf))
      with_reducible refine runs_done ?_
      refine W.seq ?_
      refine W.seq ?_
      refine W.regionL (by decide +kernel) rfl ?_
      apply r_op
      exact rfl
      exact rfl
      apply a_move
      (conv => (lhs; whnf))
      apply r_op
      exact rfl
      exact rfl
      apply a_move
      (conv => (lhs; whnf))
      apply r_op
      exact rfl
      exact rfl
      apply g_binOp
      exact a_binI rfl rfl rfl
      with_reducible refine runs_done ?_
      refine W.cond rfl (fun hc => ?_) (fun hc => ?_)
      · refine W.exit ?_
        exact ⟨x, ta, tq, hgr, hs, by exact Has.by (by repeat (first | exact trivial | refine ⟨by first | trivial | exact Weak.refl _ | exact Weak.tok _ _ _ | exact Weak.of_eq (congrArg (AV.int _) (by omega)) | exact Weak.nils _ _ (.inr rfl), ?_⟩))⟩
      have hsq : seq + (1 + IntKind.i64.wrap ((q0.toNat : Int) % 3)) < next := by have := of_decide_eq_false hc; omega
      have hsq0 : 0 ≤ seq + (1 + IntKind.i64.wrap ((q0.toNat : Int) % 3)) := by omega
      generalize seq + (1 + IntKind.i64.wrap ((q0.toNat : Int) % 3)) = seq1 at hsq hsq0 ⊢
      clear hc
      refine W.skip ?_
      show W _ _ _ _ _ _ _
      refine W.seq ?_
      refine W.meet (fun E s' => s' = s ∧ Has [(0, .slc 1 (aBytes c) t), (2, .int .i64 clock), (3, .int .i64 next), (8, .ptr b8 0), (9, .ptr bx 0), (10, .int .i64 seq1), (11, .int .i64 i)] E) ?_ ?_
      · have hm0 := Moves.refl hs.ma.room
        refine W.seq ?_
        refine W.regionL (by decide +kernel) rfl ?_
        apply r_op
        exact rfl
        exact rfl
        apply a_move
        (conv => (lhs; whnf))
        apply r_op
        exact rfl
        exact rfl
        apply a_move
        (conv => (lhs; whnf))
        apply r_op
        exact rfl
        exact rfl
        apply g_indexAddr
        exact a_indexAddr rfl rfl (by decide) (by omega) (by exact get_bytes (by assumption))
        apply r_op
        exact rfl
        exact rfl
        apply g_load
        exact a_load1 rfl rfl
        apply r_op
        exact rfl
        exact rfl
        apply g_binOp
        exact a_binI rfl rfl rfl
        apply r_op
        exact rfl
        exact rfl
        apply a_move
        (conv => (lhs; whnf))
        refine q_split rfl rfl rfl (fun hg => ?_) (fun hg => ?_)
        apply r_op
        exact rfl
        exact want_t rfl rfl rfl (by assumption)
        apply g_fieldAddr
        exact a_fieldAddrP rfl (by decide)
        apply r_load
        exact rfl
        exact rfl
        exact rfl
        decide
        exact want_t rfl rfl rfl (by assumption)
        assumption
        exact aLoad1 rfl
        apply r_op
        exact rfl
        exact want_t rfl rfl rfl (by assumption)
        apply g_call
        exact a_len_slc rfl
        apply r_op
        exact rfl
        exact want_t rfl rfl rfl (by assumption)
        apply g_binOp
        exact a_binI rfl rfl rfl
        apply r_op
        exact rfl
        exact rfl
        apply g_pick
        apply a_pickT rfl (by assumption)
        (conv => (lhs; whnf))
        with_reducible refine runs_done ?_
        refine W.cond rfl (fun hc => ?_) (fun hc => ?_)
        refine W.seq ?_
        refine W.regionL (by decide +kernel) rfl ?_
        apply r_op
        exact rfl
        exact rfl
        apply g_fieldAddr
        exact a_fieldAddrP rfl (by decide)
        apply r_load
        exact rfl
        exact rfl
        exact rfl
        decide
        exact rfl
        assumption
        exact aLoad1 rfl
        apply r_op
        exact rfl
        exact rfl
        apply a_move
        (conv => (lhs; whnf))
        apply r_op
        exact rfl
        exact rfl
        apply g_buildSlice
        apply a_build1
        (conv => (lhs; whnf))
        exact rfl
        exact rfl
        decide
        apply r_append'
        exact rfl
        exact rfl
        decide
        infer_instance
        exact rfl
        exact rfl
        exact rfl
        exact rfl
        exact rfl
        assumption
        simp only [length_aBytes, List.length_append, List.length_cons, List.length_nil, List.length_map, List.length_range]
        omega
        intro tk1 σ1 hm
        apply r_op
        exact rfl
        exact rfl
        apply g_fieldAddr
        exact a_fieldAddrP rfl (by decide)
        apply r_store
        exact rfl
        exact rfl
        exact rfl
        decide
        infer_instance
        exact rfl
        apply hb_moves (by assumption)
        assumption
        (conv => (lhs; whnf))
        exact rfl
        (conv => (lhs; whnf))
        exact rfl
        exact of_decide_eq_true rfl
        exact rfl
        with_reducible refine runs_done ?_
        refine W.exit ?_
        show W _ _ _ _ _ _ _
        refine W.regionL (by decide +kernel) rfl ?_
        apply r_op
        exact rfl
        exact rfl
        apply a_move
        (conv => (lhs; whnf))
        apply r_op
        exact rfl
        exact rfl
        apply g_binOp
        exact a_add64 rfl rfl (by omega)
        apply r_op
        exact rfl
        exact rfl
        apply a_assign
        (conv => (lhs; whnf))
        with_reducible refine runs_done ?_
        rotate_left
        refine W.skip ?_
        rotate_left
        apply q_skip
        exact rfl
        exact want_f rfl rfl rfl (by assumption)
        apply q_skip
        exact rfl
        exact want_f rfl rfl rfl (by assumption)
        apply q_skip
        exact rfl
        exact want_f rfl rfl rfl (by assumption)
        apply q_skip
        exact rfl
        exact want_f rfl rfl rfl (by assumption)
        apply r_op
        exact rfl
        exact rfl
        apply g_pick
        apply a_pickF rfl (by assumption)
        (conv => (lhs; whnf))
        with_reducible refine runs_done ?_
        refine W.condF rfl (by exact rfl) ?_
        refine W.skip ?_
        rotate_left
        · have hq20 : x.acks.length < 20 := by have := of_decide_eq_true hc; simp at this; omega
          have h9 := hs.acks (x' := { x with acks := x.acks ++ [seq1] }) hne hbx hm
          simp only [subC, List.map_append, List.map_cons, List.map_nil] at h9
          exact ⟨100 - (i + 4), by omega, i + 4, seq1, { x with acks := x.acks ++ [seq1] }, tk1, tq, rfl, by omega, by omega, hsq0, hsq, ⟨⟨hgr.fits.name, hgr.fits.topic, hgr.fits.want, hgr.fits.note, by simp; omega, hgr.fits.nqueue, hgr.fits.floor, by
            intro a ha
            rcases List.mem_append.1 ha with ha | ha
            · exact hgr.fits.acks a ha
            · obtain rfl := List.mem_singleton.1 ha
              unfold nat64; omega, hgr.fits.queue⟩, hgr.id, hgr.most, hgr.lease, by simp; omega, hgr.nqueue⟩, h9, by exact Has.by (by repeat (first | exact trivial | refine ⟨by first | trivial | exact Weak.refl _ | exact Weak.tok _ _ _ | exact Weak.of_eq (congrArg (AV.int _) (by omega)) | exact Weak.nils _ _ (.inr rfl), ?_⟩))⟩
        · exact ⟨rfl, by exact Has.by (by repeat (first | exact trivial | refine ⟨by first | trivial | exact Weak.refl _ | exact Weak.tok _ _ _ | exact Weak.of_eq (congrArg (AV.int _) (by omega)) | exact Weak.nils _ _ (.inr rfl), ?_⟩))⟩
        · exact ⟨rfl, by exact Has.by (by repeat (first | exact trivial | refine ⟨by first | trivial | exact Weak.refl _ | exact Weak.tok _ _ _ | exact Weak.of_eq (congrArg (AV.int _) (by omega)) | exact Weak.nils _ _ (.inr rfl), ?_⟩))⟩
      · rintro E s' ⟨rfl, hE⟩
        refine W.has hE ?_
        clear hE
        refine W.seq ?_
        refine W.seq ?_
        refine W.regionL (by decide +kernel) rfl ?_
        apply r_op
        exact rfl
        exact rfl
        apply g_fieldAddr
        exact a_fieldAddrP rfl (by decide)
        apply r_load
        exact rfl
        exact rfl
        exact rfl
        decide
        exact rfl
        assumption
        exact aLoad1 rfl
        apply r_op
        exact rfl
        exact rfl
        apply g_call
        exact a_len_slc rfl
        apply r_op
        exact rfl
        exact rfl
        apply g_binOp
        exact a_binI rfl rfl rfl
        with_reducible refine runs_done ?_
        refine W.cond rfl (fun hc => ?_) (fun hc => ?_)
        · refine W.exit ?_
          exact ⟨x, ta, tq, hgr, hs, by exact Has.by (by repeat (first | exact trivial | refine ⟨by first | trivial | exact Weak.refl _ | exact Weak.tok _ _ _ | exact Weak.of_eq (congrArg (AV.int _) (by omega)) | exact Weak.nils _ _ (.inr rfl), ?_⟩))⟩
        have hq30 : x.queue.length < 30 := by have := of_decide_eq_false hc; simp at this; omega
        clear hc
        refine W.skip ?_
        show W _ _ _ _ _ _ _
        refine W.seq ?_
        refine W.regionDK 0 [] Ty.mixed (by decide +kernel) (by decide +kernel) rfl ?_
        apply r_op
        exact rfl
        exact rfl
        apply a_move
        (conv => (lhs; whnf))
        apply r_op
        exact rfl
        exact rfl
        apply a_move
        (conv => (lhs; whnf))
        apply r_op
        exact rfl
        exact rfl
        apply a_move
        (conv => (lhs; whnf))
        apply r_op
        exact rfl
        exact rfl
        apply g_binOp
        exact a_add64 rfl rfl (by omega)
        apply r_op
        exact rfl
        exact rfl
        apply g_indexAddr
        exact a_indexAddr rfl rfl (by decide) (by omega) (by exact get_bytes (by assumption))
        apply r_op
        exact rfl
        exact rfl
        apply g_load
        exact a_load1 rfl rfl
        apply r_op
        exact rfl
        exact rfl
        apply g_convert
        exact a_convI rfl
        apply r_callP
        exact rfl
        exact rfl
        exact rfl
        exact rfl
        exact rfl
        infer_instance
        exact ht60
        apply r_op
        exact rfl
        exact rfl
        apply g_buildSlice
        apply a_buildN
        apply EvP.cons (by (conv => (lhs; whnf)))
        apply EvP.cons (by (conv => (lhs; whnf)))
        apply EvP.cons (by (conv => (lhs; whnf)))
        exact EvP.nil
        (conv => (lhs; whnf))
        exact rfl
        exact rfl
        decide
        apply r_op
        exact rfl
        exact rfl
        apply a_move
        (conv => (lhs; whnf))
        apply r_op
        exact rfl
        exact rfl
        apply a_move
        (conv => (lhs; whnf))
        apply r_op
        exact rfl
        exact rfl
        apply g_binOp
        exact a_add64 rfl rfl (by omega)
        apply r_op
        exact rfl
        exact rfl
        apply g_indexAddr
        exact a_indexAddr rfl rfl (by decide) (by omega) (by exact get_bytes (by assumption))
        apply r_op
        exact rfl
        exact rfl
        apply g_load
        exact a_load1 rfl rfl
        apply r_op
        exact rfl
        exact rfl
        apply g_binOp
        exact a_rem rfl rfl (by omega)
        apply r_op
        exact rfl
        exact rfl
        apply g_indexAddr
        exact a_indexAddr rfl rfl (by decide) (by omega) (by assumption)
        apply r_op
        exact rfl
        exact rfl
        apply g_load
        exact a_load1 rfl rfl
        apply r_op
        exact rfl
        exact rfl
        apply g_build
        apply a_build
        apply EvP.cons (by (conv => (lhs; whnf)))
        apply EvP.cons (by (conv => (lhs; whnf)))
        apply EvP.cons (by (conv => (lhs; whnf)))
        exact EvP.nil
        simp only [aFill, List.getElem?_cons_zero, List.getElem?_cons_succ, AV.cells, List.length_cons, List.length_nil, AV.flat, AV.one, setL, List.set_cons_zero, List.set_cons_succ, Nat.reduceAdd, Nat.reduceLeDiff, Nat.reduceMul, and_self, if_true, ↓reduceIte, Nat.zero_add, Nat.le_refl, List.range, List.range.loop, List.map_cons, List.map_nil, Nat.zero_le]
        rfl
        apply r_alloc
        exact rfl
        exact rfl
        decide
        exact rfl
        (conv => (lhs; whnf))
        intro b1 hb1
        apply r_store
        exact rfl
        exact rfl
        exact rfl
        decide
        infer_instance
        exact rfl
        exact setBox_same
        (conv => (lhs; whnf))
        exact rfl
        (conv => (lhs; whnf))
        exact rfl
        exact of_decide_eq_true rfl
        exact setL_whole rfl
        refine runs_done ?_
        show W _ _ _ _ _ _ _
        generalize b1 = b12 at hb1 ⊢
        have hb12 : s'.box b12 = none := hb1
        clear hb1
        have hσ12 := none_moves hs.ma hb12
        have h812 : b8 ≠ b12 := (ne_some hs.r hb12).symm
        have hx12 : bx ≠ b12 := (ne_some hs.b hb12).symm
        have h12x : b12 ≠ bx := hx12.symm
        refine W.seq ?_
        refine W.meet (fun E s => ∃ m : Msg, (m.body.length ≤ 1000 ∧ m.attr.length ≤ 1000) ∧ s = s'.setBox b12 (msgC m) ∧ Has [(0, .slc 1 (aBytes c) t), (2, .int .i64 clock), (3, .int .i64 next), (8, .ptr b8 0), (9, .ptr bx 0), (10, .int .i64 seq1), (11, .int .i64 i), (12, .ptr b12 0)] E) ?_ ?_
        · refine W.seq ?_
          refine W.regionL (by decide +kernel) rfl ?_
          apply r_op
          exact rfl
          exact rfl
          apply a_move
          (conv => (lhs; whnf))
          apply r_op
          exact rfl
          exact rfl
          apply a_move
          (conv => (lhs; whnf))
          apply r_op
          exact rfl
          exact rfl
          apply g_binOp
          exact a_add64 rfl rfl (by omega)
          apply r_op
          exact rfl
          exact rfl
          apply g_indexAddr
          exact a_indexAddr rfl rfl (by decide) (by omega) (by exact get_bytes (by assumption))
          apply r_op
          exact rfl
          exact rfl
          apply g_load
          exact a_load1 rfl rfl
          apply r_op
          exact rfl
          exact rfl
          apply g_binOp
          exact a_binI rfl rfl rfl
          with_reducible refine runs_done ?_
          refine W.cond rfl (fun hc => ?_) (fun hc => ?_)
          refine W.regionL (by decide +kernel) rfl ?_
          apply r_op
          exact rfl
          exact rfl
          apply a_move
          (conv => (lhs; whnf))
          apply r_op
          exact rfl
          exact rfl
          apply a_move
          (conv => (lhs; whnf))
          apply r_op
          exact rfl
          exact rfl
          apply g_binOp
          exact a_add64 rfl rfl (by omega)
          apply r_op
          exact rfl
          exact rfl
          apply g_indexAddr
          exact a_indexAddr rfl rfl (by decide) (by omega) (by exact get_bytes (by assumption))
          apply r_op
          exact rfl
          exact rfl
          apply g_load
          exact a_load1 rfl rfl
          apply r_op
          exact rfl
          exact rfl
          apply g_convert
          exact a_convI rfl
          apply r_op
          exact rfl
          exact rfl
          apply g_binOp
          exact a_rem rfl rfl (by omega)
          apply r_op
          exact rfl
          exact rfl
          apply g_fieldAddr
          exact a_fieldAddrP rfl (by decide)
          apply r_store
          exact rfl
          exact rfl
          exact rfl
          decide
          infer_instance
          exact rfl
          exact setBox_same
          (conv => (lhs; whnf))
          exact rfl
          (conv => (lhs; whnf))
          exact rfl
          exact of_decide_eq_true rfl
          exact rfl
          with_reducible refine runs_done ?_
          rotate_left
          refine W.skip ?_
          rotate_left
          · exact ⟨⟨seq1, textL q1.toNat 60, at_, 0, 0, false, [], IntKind.i64.wrap (q2.toNat : Int) % 10⟩, ⟨by show (textL q1.toNat 60).length ≤ 1000; omega, hatl⟩, by simp only [setBox_setBox]; rfl, by exact Has.by (by repeat (first | exact trivial | refine ⟨by first | trivial | exact Weak.refl _ | exact Weak.tok _ _ _ | exact Weak.of_eq (congrArg (AV.int _) (by omega)) | exact Weak.nils _ _ (.inr rfl), ?_⟩))⟩
          · exact ⟨⟨seq1, textL q1.toNat 60, at_, 0, 0, false, [], 0⟩, ⟨by show (textL q1.toNat 60).length ≤ 1000; omega, hatl⟩, by simp only [setBox_setBox]; rfl, by exact Has.by (by repeat (first | exact trivial | refine ⟨by first | trivial | exact Weak.refl _ | exact Weak.tok _ _ _ | exact Weak.of_eq (congrArg (AV.int _) (by omega)) | exact Weak.nils _ _ (.inr rfl), ?_⟩))⟩
        · rintro E s2 ⟨m, hma, rfl, hE⟩
          refine W.has hE ?_
          clear hE
          refine W.seq ?_
          refine W.meet (fun E s => ∃ m : Msg, (m.body.length ≤ 1000 ∧ m.attr.length ≤ 1000) ∧ s = s'.setBox b12 (msgC m) ∧ Has [(0, .slc 1 (aBytes c) t), (2, .int .i64 clock), (3, .int .i64 next), (8, .ptr b8 0), (9, .ptr bx 0), (10, .int .i64 seq1), (11, .int .i64 i), (12, .ptr b12 0)] E) ?_ ?_
          · refine W.seq ?_
            refine W.regionL (by decide +kernel) rfl ?_
            apply r_op
            exact rfl
            exact rfl
            apply a_move
            (conv => (lhs; whnf))
            apply r_op
            exact rfl
            exact rfl
            apply a_move
            (conv => (lhs; whnf))
            apply r_op
            exact rfl
            exact rfl
            apply g_binOp
            exact a_add64 rfl rfl (by omega)
            apply r_op
            exact rfl
            exact rfl
            apply g_indexAddr
            exact a_indexAddr rfl rfl (by decide) (by omega) (by exact get_bytes (by assumption))
            apply r_op
            exact rfl
            exact rfl
            apply g_load
            exact a_load1 rfl rfl
            apply r_op
            exact rfl
            exact rfl
            apply g_binOp
            exact a_rem rfl rfl (by omega)
            with_reducible refine runs_done ?_
            refine W.block ?_
            refine W.seq ?_
            refine W.regionL (by decide +kernel) rfl ?_
            apply r_op
            exact rfl
            exact rfl
            apply g_binOp
            exact a_binI rfl rfl rfl
            apply r_op
            exact rfl
            exact rfl
            apply a_assign
            (conv => (lhs; whnf))
            with_reducible refine runs_done ?_
            refine W.cond rfl (fun hc => ?_) (fun hc => ?_)
            refine W.regionDK 1 [] Ty.mixed (by decide +kernel) (by decide +kernel) rfl ?_
            apply r_op
            exact rfl
            exact rfl
            apply a_move
            (conv => (lhs; whnf))
            apply r_op
            exact rfl
            exact rfl
            apply a_move
            (conv => (lhs; whnf))
            apply r_op
            exact rfl
            exact rfl
            apply g_binOp
            exact a_add64 rfl rfl (by omega)
            apply r_op
            exact rfl
            exact rfl
            apply g_indexAddr
            exact a_indexAddr rfl rfl (by decide) (by omega) (by exact get_bytes (by assumption))
            apply r_op
            exact rfl
            exact rfl
            apply g_load
            exact a_load1 rfl rfl
            apply r_op
            exact rfl
            exact rfl
            apply g_convert
            exact a_convI rfl
            apply r_op
            exact rfl
            exact rfl
            apply g_fieldAddr
            exact a_fieldAddrP rfl (by decide)
            apply r_load
            exact rfl
            exact rfl
            exact rfl
            decide
            exact rfl
            apply hb_ne (by assumption)
            assumption
            exact aLoad1 rfl
            apply r_op
            exact rfl
            exact rfl
            apply g_binOp
            exact a_rem rfl rfl (by omega)
            apply r_op
            exact rfl
            exact rfl
            apply g_fieldAddr
            exact a_fieldAddrP rfl (by decide)
            apply r_store
            exact rfl
            exact rfl
            exact rfl
            decide
            infer_instance
            exact rfl
            exact setBox_same
            (conv => (lhs; whnf))
            exact rfl
            (conv => (lhs; whnf))
            exact rfl
            exact of_decide_eq_true rfl
            exact rfl
            with_reducible refine runs_done ?_
            rotate_left
            refine W.seq ?_
            refine W.regionL (by decide +kernel) rfl ?_
            apply r_op
            exact rfl
            exact rfl
            apply g_binOp
            exact a_binI rfl rfl rfl
            apply r_op
            exact rfl
            exact rfl
            apply a_assign
            (conv => (lhs; whnf))
            with_reducible refine runs_done ?_
            refine W.cond rfl (fun hc => ?_) (fun hc => ?_)
            refine W.seq ?_
            refine W.regionDK 1 [] Ty.mixed (by decide +kernel) (by decide +kernel) rfl ?_
            apply r_op
            exact rfl
            exact rfl
            apply a_move
            (conv => (lhs; whnf))
            apply r_op
            exact rfl
            exact rfl
            apply a_move
            (conv => (lhs; whnf))
            apply r_op
            exact rfl
            exact rfl
            apply g_binOp
            exact a_add64 rfl rfl (by omega)
            apply r_op
            exact rfl
            exact rfl
            apply g_indexAddr
            exact a_indexAddr rfl rfl (by decide) (by omega) (by exact get_bytes (by assumption))
            apply r_op
            exact rfl
            exact rfl
            apply g_load
            exact a_load1 rfl rfl
            apply r_op
            exact rfl
            exact rfl
            apply g_convert
            exact a_convI rfl
            apply r_op
            exact rfl
            exact rfl
            apply g_fieldAddr
            exact a_fieldAddrP rfl (by decide)
            apply r_load
            exact rfl
            exact rfl
            exact rfl
            decide
            exact rfl
            apply hb_ne (by assumption)
            assumption
            exact aLoad1 rfl
            apply r_op
            exact rfl
            exact rfl
            apply g_binOp
            exact a_rem rfl rfl (by omega)
            apply r_op
            exact rfl
            exact rfl
            apply g_binOp
            exact a_add64 rfl rfl (by omega)
            apply r_op
            exact rfl
            exact rfl
            apply g_fieldAddr
            exact a_fieldAddrP rfl (by decide)
            apply r_store
            exact rfl
            exact rfl
            exact rfl
            decide
            infer_instance
            exact rfl
            exact setBox_same
            (conv => (lhs; whnf))
            exact rfl
            (conv => (lhs; whnf))
            exact rfl
            exact of_decide_eq_true rfl
            exact rfl
            with_reducible refine runs_done ?_
            refine W.regionDK 1 [] Ty.mixed (by decide +kernel) (by decide +kernel) rfl ?_
            apply r_op
            exact rfl
            exact rfl
            apply a_move
            (conv => (lhs; whnf))
            apply r_op
            exact rfl
            exact rfl
            apply g_binOp
            exact a_add64 rfl rfl (by omega)
            apply r_op
            exact rfl
            exact rfl
            apply a_move
            (conv => (lhs; whnf))
            apply r_op
            exact rfl
            exact rfl
            apply a_move
            (conv => (lhs; whnf))
            apply r_op
            exact rfl
            exact rfl
            apply g_binOp
            exact a_add64 rfl rfl (by omega)
            apply r_op
            exact rfl
            exact rfl
            apply g_indexAddr
            exact a_indexAddr rfl rfl (by decide) (by omega) (by exact get_bytes (by assumption))
            apply r_op
            exact rfl
            exact rfl
            apply g_load
            exact a_load1 rfl rfl
            apply r_op
            exact rfl
            exact rfl
            apply g_convert
            exact a_convI rfl
            apply r_op
            exact rfl
            exact rfl
            apply g_fieldAddr
            exact a_fieldAddrP rfl (by decide)
            apply r_load
            exact rfl
            exact rfl
            exact rfl
            decide
            exact rfl
            apply hb_ne (by assumption)
            apply hb_ne (by assumption)
            assumption
            exact aLoad1 rfl
            apply r_op
            exact rfl
            exact rfl
            apply g_binOp
            exact a_rem rfl rfl (by omega)
            apply r_op
            exact rfl
            exact rfl
            apply g_binOp
            exact a_add64 rfl rfl (by omega)
            apply r_op
            exact rfl
            exact rfl
            apply g_fieldAddr
            exact a_fieldAddrP rfl (by decide)
            apply r_store
            exact rfl
            exact rfl
            exact rfl
            decide
            infer_instance
            exact rfl
            exact setBox_same
            (conv => (lhs; whnf))
            exact rfl
            (conv => (lhs; whnf))
            exact rfl
            exact of_decide_eq_true rfl
            exact rfl
            with_reducible refine runs_done ?_
            rotate_left
            refine W.seq ?_
            refine W.regionL (by decide +kernel) rfl ?_
            apply r_op
            exact rfl
            exact rfl
            apply g_binOp
            exact a_binI rfl rfl rfl
            apply r_op
            exact rfl
            exact rfl
            apply a_assign
            (conv => (lhs; whnf))
            with_reducible refine runs_done ?_
            refine W.cond rfl (fun hc => ?_) (fun hc => ?_)
            refine W.seq ?_
            refine W.regionL (by decide +kernel) rfl ?_
            apply r_op
            exact rfl
            exact rfl
            apply g_fieldAddr
            exact a_fieldAddrP rfl (by decide)
            apply r_store
            exact rfl
            exact rfl
            exact rfl
            decide
            infer_instance
            exact rfl
            exact setBox_same
            (conv => (lhs; whnf))
            exact rfl
            (conv => (lhs; whnf))
            exact rfl
            exact of_decide_eq_true rfl
            exact rfl
            with_reducible refine runs_done ?_
            refine W.seq ?_
            refine W.regionL (by decide +kernel) rfl ?_
            apply r_op
            exact rfl
            exact rfl
            apply g_fieldAddr
            exact a_fieldAddrP rfl (by decide)
            apply r_load
            exact rfl
            exact rfl
            exact rfl
            decide
            exact rfl
            apply hb_ne (by assumption)
            apply hb_ne (by assumption)
            assumption
            exact aLoad1 rfl
            apply r_op
            exact rfl
            exact rfl
            apply g_fieldAddr
            exact a_fieldAddrP rfl (by decide)
            apply r_store
            exact rfl
            exact rfl
            exact rfl
            decide
            infer_instance
            exact rfl
            exact setBox_same
            (conv => (lhs; whnf))
            exact rfl
            (conv => (lhs; whnf))
            exact rfl
            exact of_decide_eq_true rfl
            exact rfl
            with_reducible refine runs_done ?_
            refine W.regionL (by decide +kernel) rfl ?_
            apply r_op
            exact rfl
            exact rfl
            apply g_buildSlice
            apply a_buildN
            apply EvP.cons (by (conv => (lhs; whnf)))
            apply EvP.cons (by (conv => (lhs; whnf)))
            exact EvP.nil
            (conv => (lhs; whnf))
            exact rfl
            exact rfl
            decide
            apply r_op
            exact rfl
            exact rfl
            apply a_move
            (conv => (lhs; whnf))
            apply r_op
            exact rfl
            exact rfl
            apply a_move
            (conv => (lhs; whnf))
            apply r_op
            exact rfl
            exact rfl
            apply g_binOp
            exact a_add64 rfl rfl (by omega)
            apply r_op
            exact rfl
            exact rfl
            apply g_indexAddr
            exact a_indexAddr rfl rfl (by decide) (by omega) (by exact get_bytes (by assumption))
            apply r_op
            exact rfl
            exact rfl
            apply g_load
            exact a_load1 rfl rfl
            apply r_op
            exact rfl
            exact rfl
            apply g_binOp
            exact a_rem rfl rfl (by omega)
            apply r_op
            exact rfl
            exact rfl
            apply g_indexAddr
            exact a_indexAddr rfl rfl (by decide) (by omega) (by assumption)
            apply r_op
            exact rfl
            exact rfl
            apply g_load
            exact a_load1 rfl rfl
            apply r_op
            exact rfl
            exact rfl
            apply g_fieldAddr
            exact a_fieldAddrP rfl (by decide)
            apply r_store
            exact rfl
            exact rfl
            exact rfl
            decide
            infer_instance
            exact rfl
            exact setBox_same
            (conv => (lhs; whnf))
            exact rfl
            (conv => (lhs; whnf))
            exact rfl
            exact of_decide_eq_true rfl
            exact rfl
            with_reducible refine runs_done ?_
            rotate_left
            refine W.skip ?_
            rotate_left
            · exact ⟨{ m with tries := IntKind.i64.wrap (q3.toNat : Int) % x.most }, hma, by simp only [setBox_setBox]; rfl, by exact Has.by (by repeat (first | exact trivial | refine ⟨by first | trivial | exact Weak.refl _ | exact Weak.tok _ _ _ | exact Weak.of_eq (congrArg (AV.int _) (by omega)) | exact Weak.nils _ _ (.inr rfl), ?_⟩))⟩
            · exact ⟨{ m with tries := 1 + IntKind.i64.wrap (q3.toNat : Int) % x.most, until_ := (clock : Int) + 1 + IntKind.i64.wrap (q1.toNat : Int) % x.lease }, hma, by simp only [setBox_setBox]; rfl, by exact Has.by (by repeat (first | exact trivial | refine ⟨by first | trivial | exact Weak.refl _ | exact Weak.tok _ _ _ | exact Weak.of_eq (congrArg (AV.int _) (by omega)) | exact Weak.nils _ _ (.inr rfl), ?_⟩))⟩
            · exact ⟨{ m with dead := true, tries := x.most, why := wy }, hma, by simp only [setBox_setBox]; rfl, by exact Has.by (by repeat (first | exact trivial | refine ⟨by first | trivial | exact Weak.refl _ | exact Weak.tok _ _ _ | exact Weak.of_eq (congrArg (AV.int _) (by omega)) | exact Weak.nils _ _ (.inr rfl), ?_⟩))⟩
            · exact ⟨m, hma, rfl, by exact Has.by (by repeat (first | exact trivial | refine ⟨by first | trivial | exact Weak.refl _ | exact Weak.tok _ _ _ | exact Weak.of_eq (congrArg (AV.int _) (by omega)) | exact Weak.nils _ _ (.inr rfl), ?_⟩))⟩
          · rintro E s3 ⟨m, hma, rfl, hE⟩
            refine W.has hE ?_
            clear hE
            have hs3 := hs.other (cs := msgC m) h812 hx12 hσ12
            have hb3 := hs3.b
            have hm0 := Moves.refl hs3.mq.room
            refine W.regionL (by decide +kernel) rfl ?_
            apply r_op
            exact rfl
            exact rfl
            apply g_fieldAddr
            exact a_fieldAddrP rfl (by decide)
            apply r_load
            exact rfl
            exact rfl
            exact rfl
            decide
            exact rfl
            assumption
            exact aLoad1 rfl
            apply r_load
            exact rfl
            exact rfl
            exact rfl
            decide
            exact rfl
            exact setBox_same
            exact aLoadA rfl (by rfl) rfl
            apply r_op
            exact rfl
            exact rfl
            apply g_buildSlice
            apply a_build1
            (conv => (lhs; whnf))
            exact rfl
            exact rfl
            decide
            apply r_append'
            exact rfl
            exact rfl
            decide
            infer_instance
            exact rfl
            exact rfl
            exact rfl
            exact rfl
            exact rfl
            assumption
            simp only [length_aBytes, List.length_append, List.length_cons, List.length_nil, List.length_map, List.length_range]
            omega
            intro tk1 σ1 hm
            apply r_op
            exact rfl
            exact rfl
            apply g_fieldAddr
            exact a_fieldAddrP rfl (by decide)
            apply r_store
            exact rfl
            exact rfl
            exact rfl
            decide
            infer_instance
            exact rfl
            apply hb_moves (by assumption)
            assumption
            (conv => (lhs; whnf))
            exact rfl
            (conv => (lhs; whnf))
            exact rfl
            exact of_decide_eq_true rfl
            exact rfl
            with_reducible refine runs_done ?_
            refine W.regionL (by decide +kernel) rfl ?_
            apply r_op
            exact rfl
            exact rfl
            apply a_move
            (conv => (lhs; whnf))
            apply r_op
            exact rfl
            exact rfl
            apply g_binOp
            exact a_add64 rfl rfl (by omega)
            apply r_op
            exact rfl
            exact rfl
            apply a_assign
            (conv => (lhs; whnf))
            with_reducible refine runs_done ?_
            have h9 := hs3.queue (x' := { x with queue := x.queue ++ [m] }) hne hbx hm
            simp only [subC, List.map_append, List.map_cons, List.map_nil] at h9
            exact ⟨100 - (i + 4), by omega, i + 4, seq1, { x with queue := x.queue ++ [m] }, ta, tk1, rfl, by omega, by omega, hsq0, hsq, ⟨⟨hgr.fits.name, hgr.fits.topic, hgr.fits.want, hgr.fits.note, hgr.fits.nacks, by simp; omega, hgr.fits.floor, hgr.fits.acks, by
              intro a ha
              rcases List.mem_append.1 ha with ha | ha
              · exact hgr.fits.queue a ha
              · obtain rfl := List.mem_singleton.1 ha
                exact hma⟩, hgr.id, hgr.most, hgr.lease, hgr.nacks, by simp; omega⟩, h9, by exact Has.by (by repeat (first | exact trivial | refine ⟨by first | trivial | exact Weak.refl _ | exact Weak.tok _ _ _ | exact Weak.of_eq (congrArg (AV.int _) (by omega)) | exact Weak.nils _ _ (.inr rfl), ?_⟩))⟩
    · rintro E s ⟨x, ta, tq, hgr, hs, hE⟩
      refine W.has hE ?_
      clear hE
      have hb := hs.b
      have hr := hs.r
      refine W.seq ?_
      refine W.regionL (by decide +kernel) rfl ?_
      apply r_load
      exact rfl
      exact rfl
      exact rfl
      decide
      exact rfl
      assumption
      exact aLoadA rfl (by rfl) rfl
      apply r_store
      exact rfl
      exact rfl
      exact rfl
      decide
      infer_instance
      exact rfl
      assumption
      (conv => (lhs; whnf))
      exact rfl
      (conv => (lhs; whnf))
      exact rfl
      exact of_decide_eq_true rfl
      exact setL_whole rfl
      with_reducible refine runs_done ?_
      refine W.ret ?_
      show Q Exit.ret _ _
      refine post_le (σ' := σ) hQ (by apply res_cell; exact rfl; exact setBox_same; exact aLoadA rfl (by rfl) rfl; exact res_nil) rfl (weak_sub x ta tq) (le_setBox hs.ma.le hb8) ?_ (.inl rfl)
      exact ⟨x, rfl, hgr, rfl⟩
end Go.Proofs.YtkbmkhhcppfcnaaDoor
end
section
set_option linter.unusedVariables false
set_option linter.unusedSimpArgs false
set_option maxRecDepth 100000
set_option maxHeartbeats 2000000
namespace Go.Proofs.YtkbmkhhcppfcnaaDoor
open Go.Al Go.RowKit
theorem lawsub_any (w0 : World) (c : List UInt8) (t : Tok) (k : UInt8) (hc : c.length ≤ 9223372036854775807) (σ : St) : CallW Tryd.prog w0 14 [.slc 1 (aBytes c) t, .int .u8 k.toNat] σ (fun r s => ∃ x, r = eSub x ∧ Grown (1 + k.toNat) (2 + k.toNat) x ∧ s = σ) := by
  refine CallW.start Tryd.func14 rfl Tryd.ntmps14 (by simp) fun Q hQ => ?_
  have hk := k.toNat_lt
  have hw : IntKind.i64.wrap (k.toNat : Int) = (k.toNat : Int) := IntWalk.i64_in _ (by omega)
  have hs : ∀ σ, CallW Tryd.prog w0 33 [.slc 1 (aBytes c) t, .int .i64 (1 + IntKind.i64.wrap (k.toNat : Int)), .int .i64 9, .int .i64 (2 + IntKind.i64.wrap (k.toNat : Int))] σ (fun r s => ∃ x, r = eSub x ∧ Grown (1 + k.toNat) (2 + k.toNat) x ∧ s = σ) := fun σ => by
    rw [hw]
    exact sub_any w0 c t (1 + k.toNat) 9 (2 + k.toNat) hc (by omega) (by omega) ⟨by omega, by omega⟩ σ
  refine W.seq ?_
  refine W.regionL (by decide +kernel) rfl ?_
  apply r_alloc
  exact rfl
  exact rfl
  decide
  exact rfl
  (conv => (lhs; whnf))
  intro b1 hb1
  with_reducible refine runs_done ?_
  refine W.seq ?_
  refine W.regionL (by decide +kernel) rfl ?_
  apply r_op
  exact rfl
  exact rfl
  apply a_move
  (conv => (lhs; whnf))
  apply r_op
  exact rfl
  exact rfl
  apply a_move
  (conv => (lhs; whnf))
  apply r_op
  exact rfl
  exact rfl
  apply g_convert
  exact a_convI rfl
  apply r_op
  exact rfl
  exact rfl
  apply g_binOp
  exact a_add64 rfl rfl (by omega)
  apply r_op
  exact rfl
  exact rfl
  apply a_move
  (conv => (lhs; whnf))
  apply r_op
  exact rfl
  exact rfl
  apply g_convert
  exact a_convI rfl
  apply r_op
  exact rfl
  exact rfl
  apply g_binOp
  exact a_add64 rfl rfl (by omega)
  apply r_callX
  exact rfl
  exact rfl
  decide
  exact rfl
  exact rfl
  exact rfl
  infer_instance
  exact hs _
  rintro x1 σ1 ⟨hx1, rfl⟩
  apply r_store
  exact rfl
  exact rfl
  exact rfl
  decide
  infer_instance
  exact rfl
  exact setBox_same
  (conv => (lhs; whnf))
  exact rfl
  (conv => (lhs; whnf))
  exact rfl
  exact of_decide_eq_true rfl
  exact setL_whole rfl
  with_reducible refine runs_done ?_
  refine W.ret ?_
  show Q Exit.ret _ _
  refine post_le (σ' := σ) hQ (by apply res_cell; exact rfl; exact setBox_same; exact aLoadA rfl (by rfl) rfl; exact res_nil) rfl (Weak.refl _) ?_ ?_ (.inl rfl)
  rotate_left
  rotate_left
  · exact le_setBox (le_setBox (.refl _) (by assumption)) (by assumption)
  · exact ⟨x1, rfl, hx1, rfl⟩
theorem encW_p (w0 : World) (hL : Laid w0) (x : Sub) (hx : Fits x) : CallP Tryd.prog w0 16 [eSub x] (.slc 2 ((enc3 x).map eRow) .no) := fun σ => (encW_room w0 hL x hx σ).room
theorem encR_p (w0 : World) (hL : Laid w0) (x : Sub) (hx : Fits x) : CallP Tryd.prog w0 17 [eSub x] (.slc 2 ((enc3 x).map eRow) .no) := fun σ => (encR_room w0 hL x hx σ).room
theorem enc3_len (x : Sub) (hx : Fits x) : (enc3 x).length ≤ 1002 := by
  have := hx.nqueue
  have := preR_len x
  rw [enc3_eq]; simp; omega
theorem same_p (w0 : World) (x : Sub) (hx : Fits x) : CallP Tryd.prog w0 15 [.slc 2 ((enc3 x).map eRow) .no, .slc 2 ((enc3 x).map eRow) .no] (.bool true) := by
  have := sameRows_any w0 (enc3 x) (enc3 x) (by have := enc3_len x hx; omega)
  rwa [show decide (enc3 x = enc3 x) = true by simp] at this
theorem threeEncodes_any (w0 : World) (hL : Laid w0) (c : List UInt8) (t : Tok) (k : UInt8) (n : Int) (s : List UInt8) (hc : c.length ≤ 9223372036854775807) (hs : s.length ≤ 1000000000000000) (σ : St) : CallW Tryd.prog w0 3 [.slc 1 (aBytes c) t, .int .u8 k.toNat, .int .i64 n, .str s] σ (fun r _ => r = .bool true) := by
  refine CallW.start Tryd.func3 rfl Tryd.ntmps3 (by simp) fun Q hQ => ?_
  by_cases hl : 200 < s.length
  · have d : decide ((200 : Int) < (s.length : Int)) = true := decide_eq_true (by omega)
    refine W.seq ?_
    refine W.regionL (by decide +kernel) rfl ?_
    apply r_op
    exact rfl
    exact rfl
    apply a_assign
    (conv => (lhs; whnf))
    with_reducible refine runs_done ?_
    refine W.seq ?_
    refine W.seq ?_
    refine W.regionL (by decide +kernel) rfl ?_
    apply r_op
    exact rfl
    exact rfl
    apply a_move
    (conv => (lhs; whnf))
    apply r_op
    exact rfl
    exact rfl
    apply g_call
    exact a_len_str rfl
    apply r_op
    exact rfl
    exact rfl
    apply g_binOp
    exact a_binI rfl rfl rfl
    apply r_op
    exact rfl
    exact rfl
    apply a_move
    (conv => (lhs; whnf))
    apply q_skip
    exact rfl
    exact want_f rfl rfl rfl (by assumption)
    apply q_skip
    exact rfl
    exact want_f rfl rfl rfl (by assumption)
    apply r_op
    exact rfl
    exact rfl
    apply g_pick
    apply a_pickT rfl (by assumption)
    (conv => (lhs; whnf))
    with_reducible refine runs_done ?_
    refine W.condT rfl (by exact rfl) ?_
    refine W.seq ?_
    refine W.regionL (by decide +kernel) rfl ?_
    apply r_callP
    exact rfl
    exact rfl
    exact rfl
    exact rfl
    exact rfl
    infer_instance
    exact known_any w0 hL
    apply r_op
    exact rfl
    exact rfl
    apply a_assign
    (conv => (lhs; whnf))
    with_reducible refine runs_done ?_
    refine W.ret ?_
    show Q Exit.ret _ _
    refine post_p hQ rfl rfl ?_
    (conv => (lhs; whnf))
  · have d : decide ((200 : Int) < (s.length : Int)) = false := decide_eq_false (by omega)
    refine W.seq ?_
    refine W.regionL (by decide +kernel) rfl ?_
    apply r_op
    exact rfl
    exact rfl
    apply a_assign
    (conv => (lhs; whnf))
    refine runs_done ?_
    show W _ _ _ _ _ _ _
    refine W.seq ?_
    refine W.seq ?_
    refine W.regionL (by decide +kernel) rfl ?_
    apply r_op
    exact rfl
    exact rfl
    apply a_move
    (conv => (lhs; whnf))
    apply r_op
    exact rfl
    exact rfl
    apply g_call
    exact a_len_str rfl
    apply r_op
    exact rfl
    exact rfl
    apply g_binOp
    exact a_binI rfl rfl rfl
    apply r_op
    exact rfl
    exact rfl
    apply a_move
    (conv => (lhs; whnf))
    apply r_callP
    exact rfl
    exact rfl
    exact want_t rfl rfl rfl (by assumption)
    exact rfl
    exact rfl
    infer_instance
    exact known_any w0 hL
    apply r_op
    exact rfl
    exact want_t rfl rfl rfl (by assumption)
    apply g_unOp
    exact a_not rfl
    apply r_op
    exact rfl
    exact rfl
    apply g_pick
    apply a_pickF rfl (by assumption)
    (conv => (lhs; whnf))
    refine runs_done ?_
    show W _ _ _ _ _ _ _
    refine W.condF rfl (by exact rfl) ?_
    refine W.skip ?_
    show W _ _ _ _ _ _ _
    refine W.seq ?_
    refine W.regionL (by decide +kernel) rfl ?_
    apply r_op
    exact rfl
    exact rfl
    apply a_move
    (conv => (lhs; whnf))
    apply r_op
    exact rfl
    exact rfl
    apply a_move
    (conv => (lhs; whnf))
    apply r_callX
    exact rfl
    exact rfl
    decide
    exact rfl
    exact rfl
    exact rfl
    infer_instance
    exact lawsub_any w0 c t k hc _
    rintro x1 σ1 ⟨hx1, rfl⟩
    apply r_alloc
    exact rfl
    exact rfl
    decide
    exact rfl
    (conv => (lhs; whnf))
    intro b1 hb1
    apply r_store
    exact rfl
    exact rfl
    exact rfl
    decide
    infer_instance
    exact rfl
    exact setBox_same
    (conv => (lhs; whnf))
    exact rfl
    (conv => (lhs; whnf))
    exact rfl
    exact of_decide_eq_true rfl
    exact setL_whole rfl
    refine runs_done ?_
    show W _ _ _ _ _ _ _
    have hfx := hx1.fits
    have hfy : Fits { x1 with lease := n, want := s, note := s } := ⟨hfx.name, hfx.topic, by show s.length ≤ 1000; omega, by show s.length ≤ 1000; omega, hfx.nacks, hfx.nqueue, hfx.floor, hfx.acks, hfx.queue⟩
    refine W.seq ?_
    refine W.regionL (by decide +kernel) rfl ?_
    apply r_load
    exact rfl
    exact rfl
    exact rfl
    decide
    exact rfl
    exact setBox_same
    exact aLoadA rfl (by rfl) rfl
    apply r_alloc
    exact rfl
    exact rfl
    decide
    exact rfl
    (conv => (lhs; whnf))
    intro b1 hb1
    apply r_store
    exact rfl
    exact rfl
    exact rfl
    decide
    infer_instance
    exact rfl
    exact setBox_same
    (conv => (lhs; whnf))
    exact rfl
    (conv => (lhs; whnf))
    exact rfl
    exact of_decide_eq_true rfl
    exact setL_whole rfl
    with_reducible refine runs_done ?_
    refine W.seq ?_
    refine W.regionL (by decide +kernel) rfl ?_
    apply r_op
    exact rfl
    exact rfl
    apply a_move
    (conv => (lhs; whnf))
    apply r_op
    exact rfl
    exact rfl
    apply g_fieldAddr
    exact a_fieldAddrP rfl (by decide)
    apply r_store
    exact rfl
    exact rfl
    exact rfl
    decide
    infer_instance
    exact rfl
    exact setBox_same
    (conv => (lhs; whnf))
    exact rfl
    (conv => (lhs; whnf))
    exact rfl
    exact of_decide_eq_true rfl
    exact rfl
    with_reducible refine runs_done ?_
    refine W.seq ?_
    refine W.regionL (by decide +kernel) rfl ?_
    apply r_op
    exact rfl
    exact rfl
    apply a_move
    (conv => (lhs; whnf))
    apply r_op
    exact rfl
    exact rfl
    apply g_fieldAddr
    exact a_fieldAddrP rfl (by decide)
    apply r_store
    exact rfl
    exact rfl
    exact rfl
    decide
    infer_instance
    exact rfl
    exact setBox_same
    (conv => (lhs; whnf))
    exact rfl
    (conv => (lhs; whnf))
    exact rfl
    exact of_decide_eq_true rfl
    exact rfl
    with_reducible refine runs_done ?_
    refine W.seq ?_
    refine W.regionL (by decide +kernel) rfl ?_
    apply r_op
    exact rfl
    exact rfl
    apply a_move
    (conv => (lhs; whnf))
    apply r_op
    exact rfl
    exact rfl
    apply g_fieldAddr
    exact a_fieldAddrP rfl (by decide)
    apply r_store
    exact rfl
    exact rfl
    exact rfl
    decide
    infer_instance
    exact rfl
    exact setBox_same
    (conv => (lhs; whnf))
    exact rfl
    (conv => (lhs; whnf))
    exact rfl
    exact of_decide_eq_true rfl
    exact rfl
    with_reducible refine runs_done ?_
    refine W.seq ?_
    refine W.regionDK 1 [] Ty.mixed (by decide +kernel) (by decide +kernel) rfl ?_
    apply r_load
    exact rfl
    exact rfl
    exact rfl
    decide
    exact rfl
    apply hb_ne (by exact ne_none' (by assumption))
    apply hb_ne (by exact ne_none' (by assumption))
    apply hb_ne (by exact ne_none' (by assumption))
    apply hb_ne (by exact ne_none' (by assumption))
    apply hb_ne (by exact ne_none' (by assumption))
    exact setBox_same
    exact aLoadA rfl (by rfl) rfl
    apply r_callP
    exact rfl
    exact rfl
    exact rfl
    exact rfl
    exact rfl
    infer_instance
    exact encW_p w0 hL x1 hfx
    apply r_load
    exact rfl
    exact rfl
    exact rfl
    decide
    exact rfl
    apply hb_ne (by exact ne_none' (by assumption))
    apply hb_ne (by exact ne_none' (by assumption))
    apply hb_ne (by exact ne_none' (by assumption))
    apply hb_ne (by exact ne_none' (by assumption))
    apply hb_ne (by exact ne_none' (by assumption))
    exact setBox_same
    exact aLoadA rfl (by rfl) rfl
    apply r_callP
    exact rfl
    exact rfl
    exact rfl
    exact rfl
    exact rfl
    infer_instance
    exact encR_p w0 hL x1 hfx
    apply r_callP
    exact rfl
    exact rfl
    exact rfl
    exact rfl
    exact rfl
    infer_instance
    exact same_p w0 x1 hfx
    apply r_op
    exact rfl
    exact rfl
    apply a_move
    (conv => (lhs; whnf))
    apply r_load
    exact rfl
    exact rfl
    exact rfl
    decide
    exact rfl
    exact setBox_same
    exact aLoadA rfl (by rfl) rfl
    apply r_callP
    exact rfl
    exact rfl
    exact rfl
    exact rfl
    exact rfl
    infer_instance
    exact encW_p w0 hL { x1 with lease := n, want := s, note := s } hfy
    apply r_load
    exact rfl
    exact rfl
    exact rfl
    decide
    exact rfl
    exact setBox_same
    exact aLoadA rfl (by rfl) rfl
    apply r_callP
    exact rfl
    exact rfl
    exact rfl
    exact rfl
    exact rfl
    infer_instance
    exact encR_p w0 hL { x1 with lease := n, want := s, note := s } hfy
    apply r_callP
    exact rfl
    exact rfl
    exact rfl
    exact rfl
    exact rfl
    infer_instance
    exact same_p w0 { x1 with lease := n, want := s, note := s } hfy
    apply r_op
    exact rfl
    exact rfl
    apply g_pick
    apply a_pickT rfl (by exact rfl)
    (conv => (lhs; whnf))
    apply r_op
    exact rfl
    exact rfl
    apply a_assign
    (conv => (lhs; whnf))
    with_reducible refine runs_done ?_
    refine W.ret ?_
    show Q Exit.ret _ _
    refine post_p hQ rfl rfl ?_
    (conv => (lhs; whnf))
end Go.Proofs.YtkbmkhhcppfcnaaDoor
end
