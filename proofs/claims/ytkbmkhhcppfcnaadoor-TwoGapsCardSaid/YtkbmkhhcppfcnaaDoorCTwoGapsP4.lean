/- The law TwoGaps returns true for every input, and its arguments read as before: the tied card. No conditions. This is part 4 of 7 of its proof; the parts are read in order. No conditions. -/
import Derived.Test.YtkbmkhhcppfcnaaDoorCTwoGapsP3
section
set_option linter.unusedVariables false
set_option linter.unusedSimpArgs false
set_option maxRecDepth 100000
set_option maxHeartbeats 1000000
namespace Go.Proofs.YtkbmkhhcppfcnaaDoor
open Go.Al Go.RowKit
theorem gn_le : ∀ (b : List UInt8) (a k i n : Nat), a + i ≤ b.length → i + k ≤ 8 → (gn b a k i n).2.1 ≤ b.length ∧ (gn b a k i n).1 ≤ 9007199254740992 ∧ (gn b a k i n).2.2 ≤ 11
  | b, a, 0, i, n, h, _ => by simp [gn]
  | b, a, k + 1, i, n, h, h8 => by
    rw [gn]
    split
    · simp
    · rename_i hne
      dsimp only
      split
      · split
        · simp
        · rename_i hq
          refine ⟨?_, ?_, by simp⟩ <;> simp only <;> omega
      · exact gn_le b a k (i + 1) _ (by omega) (by omega)
theorem getNum_le (b : List UInt8) (a : Nat) : (getNum b a).2.1 ≤ b.length ∧ (getNum b a).1 ≤ 9007199254740992 ∧ (getNum b a).2.2 ≤ 11 := by
  unfold getNum
  split
  · simp
  · exact gn_le b a 8 0 0 (by omega) (by omega)
def getText (b : List UInt8) (a most : Nat) : List UInt8 × Nat × Nat :=
  let p := getNum b a
  if p.2.2 ≠ 0 then ([], 0, p.2.2) else if most < p.1 then ([], 0, 3) else if b.length < p.1 + p.2.1 then ([], 0, 10) else ((b.take (p.2.1 + p.1)).drop p.2.1, p.2.1 + p.1, 0)
def eT (p : List UInt8 × Nat × Nat) : AV := .tup [.str p.1, .int .i64 p.2.1, .int .u16 p.2.2]
theorem getText_any (w0 : World) (b : List UInt8) (t : Tok) (a most : Nat) (hb : b.length ≤ 1000000) (ha : a ≤ 1000000) (hm : most ≤ 1000000) : CallP Tryd.prog w0 95 [.slc 1 (aBytes b) t, .int .i64 a, .int .i64 most] (eT (getText b a most)) := by
  refine CallP.start Tryd.func95 rfl Tryd.ntmps95 (by simp) fun σ Q hQ => ?_
  obtain ⟨h1, h2, h3⟩ := getNum_le b a
  have hg := getNum_any w0 b t a (by omega) (by omega)
  unfold getText at hQ
  generalize getNum b a = p at hg h1 h2 h3 hQ
  obtain ⟨n, k, e⟩ := p
  rw [e3] at hg
  dsimp only at h1 h2 h3 hg hQ
  refine W.seq ?_; refine W.regionL (by decide +kernel) rfl ?_; apply r_op; exact rfl; exact rfl; apply a_assign; (conv => (lhs; whnf)); apply r_op; exact rfl; exact rfl; apply a_assign; (conv => (lhs; whnf)); apply r_op; exact rfl; exact rfl; apply a_assign; (conv => (lhs; whnf)); (with_reducible refine runs_done ?_); refine W.seq ?_; refine W.regionL (by decide +kernel) rfl ?_; apply r_op
  exact rfl; exact rfl; apply a_move; (conv => (lhs; whnf)); apply r_op; exact rfl; exact rfl; apply a_move; (conv => (lhs; whnf)); apply r_callP; exact rfl; exact rfl; exact rfl; exact rfl; exact rfl; infer_instance; exact hg; apply r_op; exact rfl; exact rfl; apply a_move; (conv => (lhs; whnf)); apply r_op; exact rfl; exact rfl; apply g_extract; exact a_extract rfl rfl; apply r_op; exact rfl
  exact rfl; apply g_extract; exact a_extract rfl rfl; apply r_op; exact rfl; exact rfl; apply g_extract; exact a_extract rfl rfl; apply r_op; exact rfl; exact rfl; apply a_assign; (conv => (lhs; whnf)); apply r_op; exact rfl; exact rfl; apply a_assign; (conv => (lhs; whnf)); apply r_op; exact rfl; exact rfl; apply a_assign; (conv => (lhs; whnf)); (with_reducible refine runs_done ?_); refine W.seq ?_
  refine W.block ?_; refine W.seq ?_; refine W.regionL (by decide +kernel) rfl ?_; apply r_op; exact rfl; exact rfl; apply a_move; (conv => (lhs; whnf)); apply r_op; exact rfl; exact rfl; apply g_binOp; exact a_binI rfl rfl rfl; apply r_op; exact rfl; exact rfl; apply a_assign; (conv => (lhs; whnf)); (with_reducible refine runs_done ?_); refine W.cond rfl (fun hc => ?_) (fun hc => ?_)
  refine W.seq ?_; refine W.regionL (by decide +kernel) rfl ?_; apply r_op; exact rfl; exact rfl; apply a_move; (conv => (lhs; whnf)); apply r_op; exact rfl; exact rfl; apply a_assign; (conv => (lhs; whnf)); apply r_op; exact rfl; exact rfl; apply a_assign; (conv => (lhs; whnf)); apply r_op; exact rfl; exact rfl; apply a_assign; (conv => (lhs; whnf)); (with_reducible refine runs_done ?_)
  refine W.ret ?_; show Q Exit.ret _ _; refine post_q hQ (by apply res_tmp; exact rfl; apply res_tmp; exact rfl; apply res_tmp; exact rfl; exact res_nil) (.inl rfl) (by exact .refl _) ?_; (conv => (lhs; whnf)); rotate_left; refine W.seq ?_; refine W.regionL (by decide +kernel) rfl ?_; apply r_op; exact rfl; exact rfl; apply a_move; (conv => (lhs; whnf)); apply r_op; exact rfl; exact rfl
  apply a_move; (conv => (lhs; whnf)); apply r_op; exact rfl; exact rfl; apply g_binOp; exact a_binI rfl rfl rfl; apply r_op; exact rfl; exact rfl; apply a_assign; (conv => (lhs; whnf)); (with_reducible refine runs_done ?_); refine W.cond rfl (fun hc => ?_) (fun hc => ?_); refine W.seq ?_; refine W.regionL (by decide +kernel) rfl ?_; apply r_op; exact rfl; exact rfl; apply a_assign
  (conv => (lhs; whnf)); apply r_op; exact rfl; exact rfl; apply a_assign; (conv => (lhs; whnf)); apply r_op; exact rfl; exact rfl; apply a_assign; (conv => (lhs; whnf)); (with_reducible refine runs_done ?_); refine W.ret ?_; show Q Exit.ret _ _; refine post_q hQ (by apply res_tmp; exact rfl; apply res_tmp; exact rfl; apply res_tmp; exact rfl; exact res_nil) (.inl rfl) (by exact .refl _) ?_
  (conv => (lhs; whnf)); rotate_left; refine W.seq ?_; refine W.regionL (by decide +kernel) rfl ?_; apply r_op; exact rfl; exact rfl; apply a_move; (conv => (lhs; whnf)); apply r_op; exact rfl; exact rfl; apply a_move; (conv => (lhs; whnf)); apply r_op; exact rfl; exact rfl; apply g_call; exact a_len_slc rfl; apply r_op; exact rfl; exact rfl; apply a_move; (conv => (lhs; whnf)); apply r_op
  exact rfl; exact rfl; apply g_binOp; exact a_sub64 rfl rfl (by simp only [List.length_cons, List.length_append, List.length_nil, List.length_map, length_aBytes, List.length_replicate, List.length_range]; omega); apply r_op; exact rfl; exact rfl; apply g_binOp; exact a_binI rfl rfl rfl; apply r_op; exact rfl; exact rfl; apply a_assign; (conv => (lhs; whnf)); (with_reducible refine runs_done ?_)
  refine W.cond rfl (fun hc => ?_) (fun hc => ?_); refine W.seq ?_; refine W.regionL (by decide +kernel) rfl ?_; apply r_op; exact rfl; exact rfl; apply a_assign; (conv => (lhs; whnf)); apply r_op; exact rfl; exact rfl; apply a_assign; (conv => (lhs; whnf)); apply r_op; exact rfl; exact rfl; apply a_assign; (conv => (lhs; whnf)); (with_reducible refine runs_done ?_); refine W.ret ?_
  show Q Exit.ret _ _; refine post_q hQ (by apply res_tmp; exact rfl; apply res_tmp; exact rfl; apply res_tmp; exact rfl; exact res_nil) (.inl rfl) (by exact .refl _) ?_; (conv => (lhs; whnf)); rotate_left; refine W.skip ?_; show W _ _ _ _ _ _ _; refine W.seq ?_; refine W.regionL (by decide +kernel) rfl ?_; apply r_op; exact rfl; exact rfl; apply a_move; (conv => (lhs; whnf)); apply r_op; exact rfl
  exact rfl; apply a_move; (conv => (lhs; whnf)); apply r_op; exact rfl; exact rfl; apply a_move; (conv => (lhs; whnf)); apply r_op; exact rfl; exact rfl; apply a_move; (conv => (lhs; whnf)); apply r_op; exact rfl; exact rfl; apply g_binOp; exact a_add64 rfl rfl (by omega); rotate_left
  · have he : e ≠ 0 := by rintro rfl; simp at hc
    rw [if_pos he]; rfl
  · have he : e = 0 := by simpa using ‹(!decide ((e : Int) = 0)) = false›
    have hq := of_decide_eq_true hc
    subst he
    rw [if_neg (by simp), if_pos (by omega)]; rfl
  · have he : e = 0 := by simpa using ‹(!decide ((e : Int) = 0)) = false›
    have hq1 := of_decide_eq_false ‹decide ((most : Int) < (n : Int)) = false›
    have hq := of_decide_eq_true hc
    subst he
    rw [length_aBytes] at hq
    rw [if_neg (by simp), if_neg (by omega), if_pos (by omega)]; rfl
  · have he : e = 0 := by simpa using ‹(!decide ((e : Int) = 0)) = false›
    have hq1 := of_decide_eq_false ‹decide ((most : Int) < (n : Int)) = false›
    have hq := of_decide_eq_false hc
    subst he
    rw [length_aBytes] at hq
    have hla := length_aBytes b
    apply r_op; exact rfl; exact rfl; apply g_slice; exact a_sliceB rfl rfl rfl (by omega); apply r_op; exact rfl; exact rfl; apply g_convert; exact a_bytesStr rfl; apply r_op; exact rfl; exact rfl; apply a_move; (conv => (lhs; whnf)); apply r_op; exact rfl; exact rfl; apply a_move; (conv => (lhs; whnf)); apply r_op; exact rfl; exact rfl; apply g_binOp; exact a_add64 rfl rfl (by omega); apply r_op
    exact rfl; exact rfl; apply a_assign; (conv => (lhs; whnf)); apply r_op; exact rfl; exact rfl; apply a_assign; (conv => (lhs; whnf)); apply r_op; exact rfl; exact rfl; apply a_assign; (conv => (lhs; whnf)); (with_reducible refine runs_done ?_); refine W.ret ?_; show Q Exit.ret _ _
    refine post_q hQ (by apply res_tmp; exact rfl; apply res_tmp; exact rfl; apply res_tmp; exact rfl; exact res_nil) (.inl rfl) (by exact .refl _) ?_; (conv => (lhs; whnf))
    rw [if_neg (by simp), if_neg (by omega), if_neg (by omega)]
    have e1 : ((k : Int) + (n : Int)).toNat = k + n := by omega
    show AV.tup [.str ((b.take ((k : Int) + (n : Int)).toNat).drop ((k : Int)).toNat), .int .i64 ((k : Int) + (n : Int)), .int .u16 0] = _
    rw [e1]; rfl
def fE : Option Nat → AV
  | none => .nilifc
  | some e => .ifc 140 (.agg [.int .u16 e])
def rd (v : List UInt8) (a : Nat) (f : Option Nat) : List AV := [.slc 1 (aBytes v) .no, .int .i64 a, fE f]
def atN (a k e : Nat) : Nat := if e = 0 then k else a
theorem takeN_any (w0 : World) (v : List UInt8) (a : Nat) (f : Option Nat) (b : Nat) (σ : St) (hv : v.length ≤ 1000000) (ha : a ≤ 1000000) (hb : σ.box b = some (rd v a f)) :
    CallW Tryd.prog w0 90 [.ptr b 0, .fn (.func 91) [] []] σ (fun r s => r = .tup [.int .i64 (getNum v a).1, .int .u16 (getNum v a).2.2] ∧ s = σ.setBox b (rd v (atN a (getNum v a).2.1 (getNum v a).2.2) f)) := by
  refine CallW.start Tryd.func90 rfl Tryd.ntmps90 (by simp) fun Q hQ => ?_
  have hg := getNum_any w0 v .no a (by omega) (by omega)
  generalize getNum v a = p at hg hQ
  obtain ⟨n, k, e⟩ := p
  rw [e3] at hg
  dsimp only at hg hQ
  unfold rd at hb
  refine W.seq ?_; refine W.regionL (by decide +kernel) rfl ?_; apply r_op; exact rfl; exact rfl; apply a_assign; (conv => (lhs; whnf)); apply r_op; exact rfl; exact rfl; apply a_assign; (conv => (lhs; whnf)); (with_reducible refine runs_done ?_); refine W.seq ?_; refine W.regionDK 1 [] Ty.mixed (by decide +kernel) (by decide +kernel) rfl ?_; apply r_op; exact rfl; exact rfl; apply a_move
  (conv => (lhs; whnf)); apply r_op; exact rfl; exact rfl; apply a_move; (conv => (lhs; whnf)); apply r_op; exact rfl; exact rfl; apply g_nilCheck; exact a_nilCheck rfl rfl; apply r_op; exact rfl; exact rfl; apply g_fieldAddr; exact a_fieldAddrP rfl (by decide); apply r_load; exact rfl; exact rfl; exact rfl; decide; exact rfl; assumption; exact aLoad1 rfl; apply r_op; exact rfl; exact rfl
  apply a_move; (conv => (lhs; whnf)); apply r_op; exact rfl; exact rfl; apply g_nilCheck; exact a_nilCheck rfl rfl; apply r_op; exact rfl; exact rfl; apply g_fieldAddr; exact a_fieldAddrP rfl (by decide); apply r_load; exact rfl; exact rfl; exact rfl; decide; exact rfl; assumption; exact aLoad1 rfl; apply r_callP; exact rfl; exact rfl; exact rfl; exact rfl; exact rfl; infer_instance; exact hg
  apply r_op; exact rfl; exact rfl; apply a_move; (conv => (lhs; whnf)); apply r_op; exact rfl; exact rfl; apply g_extract; exact a_extract rfl rfl; apply r_op; exact rfl; exact rfl; apply g_extract; exact a_extract rfl rfl; apply r_op; exact rfl; exact rfl; apply g_extract; exact a_extract rfl rfl; apply r_op; exact rfl; exact rfl; apply a_assign; (conv => (lhs; whnf)); apply r_op; exact rfl
  exact rfl; apply a_assign; (conv => (lhs; whnf)); apply r_op; exact rfl; exact rfl; apply a_assign; (conv => (lhs; whnf)); (with_reducible refine runs_done ?_); refine W.seq ?_; refine W.seq ?_; refine W.regionL (by decide +kernel) rfl ?_; apply r_op; exact rfl; exact rfl; apply a_move; (conv => (lhs; whnf)); apply r_op; exact rfl; exact rfl; apply g_binOp; exact a_binI rfl rfl rfl
  (with_reducible refine runs_done ?_); refine W.cond rfl (fun hc => ?_) (fun hc => ?_); refine W.regionL (by decide +kernel) rfl ?_; apply r_op; exact rfl; exact rfl; apply a_move; (conv => (lhs; whnf)); apply r_op; exact rfl; exact rfl; apply a_move; (conv => (lhs; whnf)); apply r_op; exact rfl; exact rfl; apply g_nilCheck; exact a_nilCheck rfl rfl; apply r_op; exact rfl; exact rfl
  apply g_fieldAddr; exact a_fieldAddrP rfl (by decide); apply r_store; exact rfl; exact rfl; exact rfl; decide; infer_instance; exact rfl; assumption; (conv => (lhs; whnf)); exact rfl; (conv => (lhs; whnf)); exact rfl; exact of_decide_eq_true rfl; exact rfl; (with_reducible refine runs_done ?_); refine W.seq ?_; refine W.regionL (by decide +kernel) rfl ?_; apply r_op; exact rfl; exact rfl
  apply a_move; (conv => (lhs; whnf)); apply r_op; exact rfl; exact rfl; apply a_move; (conv => (lhs; whnf)); apply r_op; exact rfl; exact rfl; apply a_assign; (conv => (lhs; whnf)); apply r_op; exact rfl; exact rfl; apply a_assign; (conv => (lhs; whnf)); (with_reducible refine runs_done ?_); refine W.ret ?_; show Q Exit.ret _ _; refine post_p hQ rfl rfl ?_; (conv => (lhs; whnf)); rotate_left
  refine W.skip ?_; show W _ _ _ _ _ _ _; refine W.seq ?_; refine W.regionL (by decide +kernel) rfl ?_; apply r_op; exact rfl; exact rfl; apply a_move; (conv => (lhs; whnf)); apply r_op; exact rfl; exact rfl; apply a_move; (conv => (lhs; whnf)); apply r_op; exact rfl; exact rfl; apply a_assign; (conv => (lhs; whnf)); apply r_op; exact rfl; exact rfl; apply a_assign; (conv => (lhs; whnf))
  (with_reducible refine runs_done ?_); refine W.ret ?_; show Q Exit.ret _ _; refine post_p hQ rfl rfl ?_; (conv => (lhs; whnf)); rotate_left
  · have he : e = 0 := by simpa using hc
    subst he
    exact ⟨rfl, rfl⟩
  · have he : e ≠ 0 := by simpa using hc
    refine ⟨rfl, ?_⟩
    rw [atN, if_neg he]
    exact (setBox_id hb).symm
def errN (e : Nat) (f : Option Nat) : Option Nat := if e = 0 then f else match f with
  | none => some e
  | some g => some g
theorem keep_any (w0 : World) (v : List UInt8) (a e : Nat) (f : Option Nat) (b : Nat) (σ : St) (hb : σ.box b = some (rd v a f)) :
    CallW Tryd.prog w0 92 [.ptr b 0, .int .u16 e] σ (fun r s => r = .bool ((errN e f).isNone) ∧ s = σ.setBox b (rd v a (errN e f))) := by
  refine CallW.start Tryd.func92 rfl Tryd.ntmps92 (by simp) fun Q hQ => ?_
  unfold rd at hb
  by_cases he : e = 0
  · subst he
    have hd : (!decide (((0 : Nat) : Int) = 0)) = false := rfl
    cases f with
    | none =>
      refine W.seq ?_; refine W.regionL (by decide +kernel) rfl ?_; apply r_op; exact rfl; exact rfl; apply a_assign; (conv => (lhs; whnf)); (with_reducible refine runs_done ?_); refine W.seq ?_; refine W.seq ?_; refine W.regionL (by decide +kernel) rfl ?_; apply r_op; exact rfl; exact rfl; apply a_move; (conv => (lhs; whnf)); apply r_op; exact rfl; exact rfl; apply g_binOp; exact a_binI rfl rfl rfl
      apply r_op; exact rfl; exact rfl; apply a_move; (conv => (lhs; whnf)); apply q_skip; exact rfl; exact want_f rfl rfl rfl (by exact rfl); apply q_skip; exact rfl; exact want_f rfl rfl rfl (by exact rfl); apply q_skip; exact rfl; exact want_f rfl rfl rfl (by exact rfl); apply q_skip; exact rfl; exact want_f rfl rfl rfl (by exact rfl); apply q_skip; exact rfl
      exact want_f rfl rfl rfl (by exact rfl); apply r_op; exact rfl; exact rfl; apply g_pick; apply a_pickF rfl (by exact rfl); (conv => (lhs; whnf)); (with_reducible refine runs_done ?_); refine W.condF rfl (by exact rfl) ?_; refine W.skip ?_; show W _ _ _ _ _ _ _; refine W.seq ?_; refine W.regionL (by decide +kernel) rfl ?_; apply r_op; exact rfl; exact rfl; apply a_move; (conv => (lhs; whnf))
      apply r_op; exact rfl; exact rfl; apply g_nilCheck; exact a_nilCheck rfl rfl; apply r_op; exact rfl; exact rfl; apply g_fieldAddr; exact a_fieldAddrP rfl (by decide); apply r_load; exact rfl; exact rfl; exact rfl; decide; exact rfl; assumption; exact aLoad1 rfl; apply r_op; exact rfl; exact rfl; apply g_binOp; exact a_nilI rfl rfl (by exact .inl rfl) rfl rfl rfl; apply r_op; exact rfl
      exact rfl; apply a_assign; (conv => (lhs; whnf)); (with_reducible refine runs_done ?_); refine W.ret ?_; show Q Exit.ret _ _; refine post_p hQ rfl rfl ?_; (conv => (lhs; whnf))
      exact ⟨rfl, (setBox_id hb).symm⟩
    | some g =>
      refine W.seq ?_; refine W.regionL (by decide +kernel) rfl ?_; apply r_op; exact rfl; exact rfl; apply a_assign; (conv => (lhs; whnf)); (with_reducible refine runs_done ?_); refine W.seq ?_; refine W.seq ?_; refine W.regionL (by decide +kernel) rfl ?_; apply r_op; exact rfl; exact rfl; apply a_move; (conv => (lhs; whnf)); apply r_op; exact rfl; exact rfl; apply g_binOp; exact a_binI rfl rfl rfl
      apply r_op; exact rfl; exact rfl; apply a_move; (conv => (lhs; whnf)); apply q_skip; exact rfl; exact want_f rfl rfl rfl (by exact rfl); apply q_skip; exact rfl; exact want_f rfl rfl rfl (by exact rfl); apply q_skip; exact rfl; exact want_f rfl rfl rfl (by exact rfl); apply q_skip; exact rfl; exact want_f rfl rfl rfl (by exact rfl); apply q_skip; exact rfl
      exact want_f rfl rfl rfl (by exact rfl); apply r_op; exact rfl; exact rfl; apply g_pick; apply a_pickF rfl (by exact rfl); (conv => (lhs; whnf)); (with_reducible refine runs_done ?_); refine W.condF rfl (by exact rfl) ?_; refine W.skip ?_; show W _ _ _ _ _ _ _; refine W.seq ?_; refine W.regionL (by decide +kernel) rfl ?_; apply r_op; exact rfl; exact rfl; apply a_move; (conv => (lhs; whnf))
      apply r_op; exact rfl; exact rfl; apply g_nilCheck; exact a_nilCheck rfl rfl; apply r_op; exact rfl; exact rfl; apply g_fieldAddr; exact a_fieldAddrP rfl (by decide); apply r_load; exact rfl; exact rfl; exact rfl; decide; exact rfl; assumption; exact aLoad1 rfl; apply r_op; exact rfl; exact rfl; apply g_binOp; exact a_nilI rfl rfl (by exact .inr ⟨_, _, rfl⟩) rfl rfl rfl; apply r_op; exact rfl
      exact rfl; apply a_assign; (conv => (lhs; whnf)); (with_reducible refine runs_done ?_); refine W.ret ?_; show Q Exit.ret _ _; refine post_p hQ rfl rfl ?_; (conv => (lhs; whnf))
      exact ⟨rfl, (setBox_id hb).symm⟩
  · have hd : (!decide ((e : Int) = 0)) = true := by simp [he]
    cases f with
    | none =>
      rw [show errN e none = some e from if_neg he] at hQ
      refine W.seq ?_; refine W.regionL (by decide +kernel) rfl ?_; apply r_op; exact rfl; exact rfl; apply a_assign; (conv => (lhs; whnf)); (with_reducible refine runs_done ?_); refine W.seq ?_; refine W.seq ?_; refine W.regionL (by decide +kernel) rfl ?_; apply r_op; exact rfl; exact rfl; apply a_move; (conv => (lhs; whnf)); apply r_op; exact rfl; exact rfl; apply g_binOp; exact a_binI rfl rfl rfl
      apply r_op; exact rfl; exact rfl; apply a_move; (conv => (lhs; whnf)); apply r_op; exact rfl; exact want_t rfl rfl rfl (by assumption); apply a_move; (conv => (lhs; whnf)); apply r_op; exact rfl; exact want_t rfl rfl rfl (by assumption); apply g_nilCheck; exact a_nilCheck rfl rfl; apply r_op; exact rfl; exact want_t rfl rfl rfl (by assumption); apply g_fieldAddr
      exact a_fieldAddrP rfl (by decide); apply r_load; exact rfl; exact rfl; exact rfl; decide; exact want_t rfl rfl rfl (by assumption); assumption; exact aLoad1 rfl; apply r_op; exact rfl; exact want_t rfl rfl rfl (by assumption); apply g_binOp; exact a_nilI rfl rfl (by exact .inl rfl) rfl rfl rfl; apply r_op; exact rfl; exact rfl; apply g_pick; apply a_pickT rfl (by assumption)
      (conv => (lhs; whnf)); (with_reducible refine runs_done ?_); refine W.condT rfl (by exact rfl) ?_; refine W.regionL (by decide +kernel) rfl ?_; apply r_op; exact rfl; exact rfl; apply a_move; (conv => (lhs; whnf)); apply r_op; exact rfl; exact rfl; apply a_move; (conv => (lhs; whnf)); apply r_op; exact rfl; exact rfl; apply g_build; apply a_build; apply EvP.cons (by (conv => (lhs; whnf)))
      exact EvP.nil
      simp only [aFill, List.getElem?_cons_zero, List.getElem?_cons_succ, AV.cells, List.length_cons, List.length_nil, AV.flat, AV.one, setL, List.set_cons_zero, List.set_cons_succ, Nat.reduceAdd, Nat.reduceLeDiff, Nat.reduceMul, and_self, if_true, ↓reduceIte, Nat.zero_add, Nat.le_refl, List.range, List.range.loop, List.map_cons, List.map_nil, Nat.zero_le]
      rfl; apply r_op; exact rfl; exact rfl; apply a_mkIface; (conv => (lhs; whnf)); apply r_op; exact rfl; exact rfl; apply g_nilCheck; exact a_nilCheck rfl rfl; apply r_op; exact rfl; exact rfl; apply g_fieldAddr; exact a_fieldAddrP rfl (by decide); apply r_store; exact rfl; exact rfl; exact rfl; decide; infer_instance; exact rfl; assumption; (conv => (lhs; whnf)); exact rfl
      (conv => (lhs; whnf)); exact rfl; exact of_decide_eq_true rfl; exact rfl; (with_reducible refine runs_done ?_); refine W.seq ?_; refine W.regionL (by decide +kernel) rfl ?_; apply r_op; exact rfl; exact rfl; apply a_move; (conv => (lhs; whnf)); apply r_op; exact rfl; exact rfl; apply g_nilCheck; exact a_nilCheck rfl rfl; apply r_op; exact rfl; exact rfl; apply g_fieldAddr
      exact a_fieldAddrP rfl (by decide); apply r_load; exact rfl; exact rfl; exact rfl; decide; exact rfl; exact setBox_same; exact aLoad1 rfl; apply r_op; exact rfl; exact rfl; apply g_binOp; exact a_nilI rfl rfl (by exact .inr ⟨_, _, rfl⟩) rfl rfl rfl; apply r_op; exact rfl; exact rfl; apply a_assign; (conv => (lhs; whnf)); (with_reducible refine runs_done ?_); refine W.ret ?_; show Q Exit.ret _ _
      refine post_p hQ rfl rfl ?_; (conv => (lhs; whnf))
      exact ⟨rfl, rfl⟩
    | some g =>
      rw [show errN e (some g) = some g from if_neg he] at hQ
      refine W.seq ?_; refine W.regionL (by decide +kernel) rfl ?_; apply r_op; exact rfl; exact rfl; apply a_assign; (conv => (lhs; whnf)); (with_reducible refine runs_done ?_); refine W.seq ?_; refine W.seq ?_; refine W.regionL (by decide +kernel) rfl ?_; apply r_op; exact rfl; exact rfl; apply a_move; (conv => (lhs; whnf)); apply r_op; exact rfl; exact rfl; apply g_binOp; exact a_binI rfl rfl rfl
      apply r_op; exact rfl; exact rfl; apply a_move; (conv => (lhs; whnf)); apply r_op; exact rfl; exact want_t rfl rfl rfl (by assumption); apply a_move; (conv => (lhs; whnf)); apply r_op; exact rfl; exact want_t rfl rfl rfl (by assumption); apply g_nilCheck; exact a_nilCheck rfl rfl; apply r_op; exact rfl; exact want_t rfl rfl rfl (by assumption); apply g_fieldAddr
      exact a_fieldAddrP rfl (by decide); apply r_load; exact rfl; exact rfl; exact rfl; decide; exact want_t rfl rfl rfl (by assumption); assumption; exact aLoad1 rfl; apply r_op; exact rfl; exact want_t rfl rfl rfl (by assumption); apply g_binOp; exact a_nilI rfl rfl (by exact .inr ⟨_, _, rfl⟩) rfl rfl rfl; apply r_op; exact rfl; exact rfl; apply g_pick; apply a_pickT rfl (by assumption)
      (conv => (lhs; whnf)); (with_reducible refine runs_done ?_); refine W.condF rfl (by exact rfl) ?_; refine W.skip ?_; show W _ _ _ _ _ _ _; refine W.seq ?_; refine W.regionL (by decide +kernel) rfl ?_; apply r_op; exact rfl; exact rfl; apply a_move; (conv => (lhs; whnf)); apply r_op; exact rfl; exact rfl; apply g_nilCheck; exact a_nilCheck rfl rfl; apply r_op; exact rfl; exact rfl
      apply g_fieldAddr; exact a_fieldAddrP rfl (by decide); apply r_load; exact rfl; exact rfl; exact rfl; decide; exact rfl; assumption; exact aLoad1 rfl; apply r_op; exact rfl; exact rfl; apply g_binOp; exact a_nilI rfl rfl (by exact .inr ⟨_, _, rfl⟩) rfl rfl rfl; apply r_op; exact rfl; exact rfl; apply a_assign; (conv => (lhs; whnf)); (with_reducible refine runs_done ?_); refine W.ret ?_
      show Q Exit.ret _ _; refine post_p hQ rfl rfl ?_; (conv => (lhs; whnf))
      exact ⟨rfl, (setBox_id hb).symm⟩
def rNum (v : List UInt8) (a : Nat) (f : Option Nat) : Nat × Nat × Option Nat :=
  let p := getNum v a
  (if (errN p.2.2 f).isNone then p.1 else 0, atN a p.2.1 p.2.2, errN p.2.2 f)
def rText (v : List UInt8) (a : Nat) (f : Option Nat) (most : Nat) : List UInt8 × Nat × Option Nat :=
  let p := getText v a most
  (if (errN p.2.2 f).isNone then p.1 else [], atN a p.2.1 p.2.2, errN p.2.2 f)
theorem rnum_any (w0 : World) (v : List UInt8) (a : Nat) (f : Option Nat) (b : Nat) (σ : St) (hv : v.length ≤ 1000000) (ha : a ≤ 1000000) (hb : σ.box b = some (rd v a f)) :
    CallW Tryd.prog w0 45 [.ptr b 0] σ (fun r s => r = .int .i64 (rNum v a f).1 ∧ s = σ.setBox b (rd v (rNum v a f).2.1 (rNum v a f).2.2)) := by
  refine CallW.start Tryd.func45 rfl Tryd.ntmps45 (by simp) fun Q hQ => ?_
  have h1 := takeN_any w0 v a f b σ hv ha hb
  unfold rNum at hQ
  generalize getNum v a = p at h1 hQ
  obtain ⟨n, k, e⟩ := p
  dsimp only at h1 hQ
  have h2 := keep_any w0 v (atN a k e) e f b (σ.setBox b (rd v (atN a k e) f)) setBox_same
  rw [setBox_setBox] at h2
  generalize hf : errN e f = g at h2 hQ
  cases g with
  | none =>
    refine W.seq ?_; refine W.regionL (by decide +kernel) rfl ?_; apply r_op; exact rfl; exact rfl; apply a_assign; (conv => (lhs; whnf)); (with_reducible refine runs_done ?_); refine W.seq ?_; refine W.regionL (by decide +kernel) rfl ?_; apply r_op; exact rfl; exact rfl; apply a_move; (conv => (lhs; whnf)); apply r_op; exact rfl; exact rfl; apply g_nilCheck; exact a_nilCheck rfl rfl; apply r_op
    exact rfl; exact rfl; apply g_fieldAddr; exact a_fieldAddrP rfl (by decide); apply r_callS; exact rfl; exact rfl; decide; exact rfl; exact rfl; exact rfl; infer_instance; exact h1; apply r_op; exact rfl; exact rfl; apply a_move; (conv => (lhs; whnf)); apply r_op; exact rfl; exact rfl; apply g_extract; exact a_extract rfl rfl; apply r_op; exact rfl; exact rfl; apply g_extract
    exact a_extract rfl rfl; apply r_op; exact rfl; exact rfl; apply a_assign; (conv => (lhs; whnf)); apply r_op; exact rfl; exact rfl; apply a_assign; (conv => (lhs; whnf)); (with_reducible refine runs_done ?_); refine W.seq ?_; refine W.seq ?_; refine W.regionL (by decide +kernel) rfl ?_; apply r_op; exact rfl; exact rfl; apply a_move; (conv => (lhs; whnf)); apply r_op; exact rfl; exact rfl
    apply a_move; (conv => (lhs; whnf)); apply r_callS; exact rfl; exact rfl; decide; exact rfl; exact rfl; exact rfl; infer_instance; exact h2; apply r_op; exact rfl; exact rfl; apply g_unOp; exact a_not rfl; (with_reducible refine runs_done ?_); refine W.condF rfl (by exact rfl) ?_; refine W.skip ?_; show W _ _ _ _ _ _ _; refine W.seq ?_; refine W.regionL (by decide +kernel) rfl ?_; apply r_op
    exact rfl; exact rfl; apply a_move; (conv => (lhs; whnf)); apply r_op; exact rfl; exact rfl; apply a_assign; (conv => (lhs; whnf)); (with_reducible refine runs_done ?_); refine W.ret ?_; show Q Exit.ret _ _; refine post_p hQ rfl rfl ?_; (conv => (lhs; whnf))
    exact ⟨rfl, rfl⟩
  | some g =>
    refine W.seq ?_; refine W.regionL (by decide +kernel) rfl ?_; apply r_op; exact rfl; exact rfl; apply a_assign; (conv => (lhs; whnf)); (with_reducible refine runs_done ?_); refine W.seq ?_; refine W.regionL (by decide +kernel) rfl ?_; apply r_op; exact rfl; exact rfl; apply a_move; (conv => (lhs; whnf)); apply r_op; exact rfl; exact rfl; apply g_nilCheck; exact a_nilCheck rfl rfl; apply r_op
    exact rfl; exact rfl; apply g_fieldAddr; exact a_fieldAddrP rfl (by decide); apply r_callS; exact rfl; exact rfl; decide; exact rfl; exact rfl; exact rfl; infer_instance; exact h1; apply r_op; exact rfl; exact rfl; apply a_move; (conv => (lhs; whnf)); apply r_op; exact rfl; exact rfl; apply g_extract; exact a_extract rfl rfl; apply r_op; exact rfl; exact rfl; apply g_extract
    exact a_extract rfl rfl; apply r_op; exact rfl; exact rfl; apply a_assign; (conv => (lhs; whnf)); apply r_op; exact rfl; exact rfl; apply a_assign; (conv => (lhs; whnf)); (with_reducible refine runs_done ?_); refine W.seq ?_; refine W.seq ?_; refine W.regionL (by decide +kernel) rfl ?_; apply r_op; exact rfl; exact rfl; apply a_move; (conv => (lhs; whnf)); apply r_op; exact rfl; exact rfl
    apply a_move; (conv => (lhs; whnf)); apply r_callS; exact rfl; exact rfl; decide; exact rfl; exact rfl; exact rfl; infer_instance; exact h2; apply r_op; exact rfl; exact rfl; apply g_unOp; exact a_not rfl; (with_reducible refine runs_done ?_); refine W.condT rfl (by exact rfl) ?_; refine W.seq ?_; refine W.regionL (by decide +kernel) rfl ?_; apply r_op; exact rfl; exact rfl; apply a_assign
    (conv => (lhs; whnf)); (with_reducible refine runs_done ?_); refine W.ret ?_; show Q Exit.ret _ _; refine post_p hQ rfl rfl ?_; (conv => (lhs; whnf))
    exact ⟨rfl, rfl⟩
theorem text1_any (w0 : World) (v : List UInt8) (t : Tok) (a most : Nat) (hv : v.length ≤ 1000000) (ha : a ≤ 1000000) (hm : most ≤ 1000000) : CallP Tryd.prog w0 94 [.slc 1 (aBytes v) t, .int .i64 a, .vp (.int .i64 most)] (eT (getText v a most)) := by
  refine CallP.start Tryd.func94 rfl Tryd.ntmps94 (by simp) fun σ Q hQ => ?_
  have hg := getText_any w0 v t a most hv ha hm
  generalize getText v a most = p at hg hQ
  obtain ⟨n, k, e⟩ := p
  rw [eT] at hg
  refine W.seq ?_; refine W.regionL (by decide +kernel) rfl ?_; apply r_op; exact rfl; exact rfl; apply a_assign; (conv => (lhs; whnf)); apply r_op; exact rfl; exact rfl; apply a_assign; (conv => (lhs; whnf)); apply r_op; exact rfl; exact rfl; apply a_assign; (conv => (lhs; whnf)); (with_reducible refine runs_done ?_); refine W.seq ?_; refine W.regionL (by decide +kernel) rfl ?_; apply r_op
  exact rfl; exact rfl; apply a_move; (conv => (lhs; whnf)); apply r_op; exact rfl; exact rfl; apply a_move; (conv => (lhs; whnf)); apply r_op; exact rfl; exact rfl; apply g_load; exact a_load1 rfl rfl; apply r_callP; exact rfl; exact rfl; exact rfl; exact rfl; exact rfl; infer_instance; exact hg; apply r_op; exact rfl; exact rfl; apply g_extract; exact a_extract rfl rfl; apply r_op; exact rfl
  exact rfl; apply g_extract; exact a_extract rfl rfl; apply r_op; exact rfl; exact rfl; apply g_extract; exact a_extract rfl rfl; apply r_op; exact rfl; exact rfl; apply a_assign; (conv => (lhs; whnf)); apply r_op; exact rfl; exact rfl; apply a_assign; (conv => (lhs; whnf)); apply r_op; exact rfl; exact rfl; apply a_assign; (conv => (lhs; whnf)); (with_reducible refine runs_done ?_); refine W.ret ?_
  show Q Exit.ret _ _; refine post_q hQ (by apply res_tmp; exact rfl; apply res_tmp; exact rfl; apply res_tmp; exact rfl; exact res_nil) (.inl rfl) (by exact .refl _) ?_; (conv => (lhs; whnf)); rfl
theorem takeT_any (w0 : World) (v : List UInt8) (a most : Nat) (f : Option Nat) (b : Nat) (σ : St) (hv : v.length ≤ 1000000) (ha : a ≤ 1000000) (hm : most ≤ 1000000) (hb : σ.box b = some (rd v a f)) :
    CallW Tryd.prog w0 93 [.ptr b 0, .fn (.func 94) [] [.vp (.int .i64 most)]] σ (fun r s => r = .tup [.str (getText v a most).1, .int .u16 (getText v a most).2.2] ∧ s = σ.setBox b (rd v (atN a (getText v a most).2.1 (getText v a most).2.2) f)) := by
  refine CallW.start Tryd.func93 rfl Tryd.ntmps93 (by simp) fun Q hQ => ?_
  have hg := text1_any w0 v .no a most (by omega) (by omega) hm
  generalize getText v a most = p at hg hQ
  obtain ⟨n, k, e⟩ := p
  rw [eT] at hg
  dsimp only at hg hQ
  unfold rd at hb
  refine W.seq ?_; refine W.regionL (by decide +kernel) rfl ?_; apply r_op; exact rfl; exact rfl; apply a_assign; (conv => (lhs; whnf)); apply r_op; exact rfl; exact rfl; apply a_assign; (conv => (lhs; whnf)); (with_reducible refine runs_done ?_); refine W.seq ?_; refine W.regionDK 1 [] Ty.mixed (by decide +kernel) (by decide +kernel) rfl ?_; apply r_op; exact rfl; exact rfl; apply a_move
  (conv => (lhs; whnf)); apply r_op; exact rfl; exact rfl; apply a_move; (conv => (lhs; whnf)); apply r_op; exact rfl; exact rfl; apply g_nilCheck; exact a_nilCheck rfl rfl; apply r_op; exact rfl; exact rfl; apply g_fieldAddr; exact a_fieldAddrP rfl (by decide); apply r_load; exact rfl; exact rfl; exact rfl; decide; exact rfl; assumption; exact aLoad1 rfl; apply r_op; exact rfl; exact rfl
  apply a_move; (conv => (lhs; whnf)); apply r_op; exact rfl; exact rfl; apply g_nilCheck; exact a_nilCheck rfl rfl; apply r_op; exact rfl; exact rfl; apply g_fieldAddr; exact a_fieldAddrP rfl (by decide); apply r_load; exact rfl; exact rfl; exact rfl; decide; exact rfl; assumption; exact aLoad1 rfl; apply r_callP; exact rfl; exact rfl; exact rfl; exact rfl; exact rfl; infer_instance; exact hg
  apply r_op; exact rfl; exact rfl; apply a_move; (conv => (lhs; whnf)); apply r_op; exact rfl; exact rfl; apply g_extract; exact a_extract rfl rfl; apply r_op; exact rfl; exact rfl; apply g_extract; exact a_extract rfl rfl; apply r_op; exact rfl; exact rfl; apply g_extract; exact a_extract rfl rfl; apply r_op; exact rfl; exact rfl; apply a_assign; (conv => (lhs; whnf)); apply r_op; exact rfl
  exact rfl; apply a_assign; (conv => (lhs; whnf)); apply r_op; exact rfl; exact rfl; apply a_assign; (conv => (lhs; whnf)); (with_reducible refine runs_done ?_); refine W.seq ?_; refine W.seq ?_; refine W.regionL (by decide +kernel) rfl ?_; apply r_op; exact rfl; exact rfl; apply a_move; (conv => (lhs; whnf)); apply r_op; exact rfl; exact rfl; apply g_binOp; exact a_binI rfl rfl rfl
  (with_reducible refine runs_done ?_); refine W.cond rfl (fun hc => ?_) (fun hc => ?_); refine W.regionL (by decide +kernel) rfl ?_; apply r_op; exact rfl; exact rfl; apply a_move; (conv => (lhs; whnf)); apply r_op; exact rfl; exact rfl; apply a_move; (conv => (lhs; whnf)); apply r_op; exact rfl; exact rfl; apply g_nilCheck; exact a_nilCheck rfl rfl; apply r_op; exact rfl; exact rfl
  apply g_fieldAddr; exact a_fieldAddrP rfl (by decide); apply r_store; exact rfl; exact rfl; exact rfl; decide; infer_instance; exact rfl; assumption; (conv => (lhs; whnf)); exact rfl; (conv => (lhs; whnf)); exact rfl; exact of_decide_eq_true rfl; exact rfl; (with_reducible refine runs_done ?_); refine W.seq ?_; refine W.regionL (by decide +kernel) rfl ?_; apply r_op; exact rfl; exact rfl
  apply a_move; (conv => (lhs; whnf)); apply r_op; exact rfl; exact rfl; apply a_move; (conv => (lhs; whnf)); apply r_op; exact rfl; exact rfl; apply a_assign; (conv => (lhs; whnf)); apply r_op; exact rfl; exact rfl; apply a_assign; (conv => (lhs; whnf)); (with_reducible refine runs_done ?_); refine W.ret ?_; show Q Exit.ret _ _; refine post_p hQ rfl rfl ?_; (conv => (lhs; whnf)); rotate_left
  refine W.skip ?_; show W _ _ _ _ _ _ _; refine W.seq ?_; refine W.regionL (by decide +kernel) rfl ?_; apply r_op; exact rfl; exact rfl; apply a_move; (conv => (lhs; whnf)); apply r_op; exact rfl; exact rfl; apply a_move; (conv => (lhs; whnf)); apply r_op; exact rfl; exact rfl; apply a_assign; (conv => (lhs; whnf)); apply r_op; exact rfl; exact rfl; apply a_assign; (conv => (lhs; whnf))
  (with_reducible refine runs_done ?_); refine W.ret ?_; show Q Exit.ret _ _; refine post_p hQ rfl rfl ?_; (conv => (lhs; whnf)); rotate_left
  · have he : e = 0 := by simpa using hc
    subst he
    exact ⟨rfl, rfl⟩
  · have he : e ≠ 0 := by simpa using hc
    refine ⟨rfl, ?_⟩
    rw [atN, if_neg he]
    exact (setBox_id hb).symm
theorem rtext_any (w0 : World) (v : List UInt8) (a most : Nat) (f : Option Nat) (b : Nat) (σ : St) (hv : v.length ≤ 1000000) (ha : a ≤ 1000000) (hm : most ≤ 1000000) (hb : σ.box b = some (rd v a f)) :
    CallW Tryd.prog w0 47 [.ptr b 0, .int .i64 most] σ (fun r s => r = .str (rText v a f most).1 ∧ s = σ.setBox b (rd v (rText v a f most).2.1 (rText v a f most).2.2)) := by
  refine CallW.start Tryd.func47 rfl Tryd.ntmps47 (by simp) fun Q hQ => ?_
  have h1 := takeT_any w0 v a most f b σ hv ha hm hb
  unfold rText at hQ
  generalize getText v a most = p at h1 hQ
  obtain ⟨n, k, e⟩ := p
  dsimp only at h1 hQ
  have h2 := keep_any w0 v (atN a k e) e f b (σ.setBox b (rd v (atN a k e) f)) setBox_same
  rw [setBox_setBox] at h2
  generalize hf : errN e f = g at h2 hQ
  cases g with
  | none =>
    refine W.seq ?_; refine W.regionL (by decide +kernel) rfl ?_; apply r_boxF; exact rfl; exact rfl; exact rfl; (conv => (lhs; whnf)); exact rfl; apply r_op; exact rfl; exact rfl; apply a_assign; (conv => (lhs; whnf)); (with_reducible refine runs_done ?_); refine W.seq ?_; refine W.regionL (by decide +kernel) rfl ?_; apply r_op; exact rfl; exact rfl; apply a_move; (conv => (lhs; whnf)); apply r_op
    exact rfl; exact rfl; apply g_nilCheck; exact a_nilCheck rfl rfl; apply r_op; exact rfl; exact rfl; apply g_fieldAddr; exact a_fieldAddrP rfl (by decide); apply r_op; exact rfl; exact rfl; exact a_makeFunc rfl rfl; apply r_callS; exact rfl; exact rfl; decide; exact rfl; exact rfl; exact rfl; infer_instance; exact h1; apply r_op; exact rfl; exact rfl; apply a_move; (conv => (lhs; whnf))
    apply r_op; exact rfl; exact rfl; apply g_extract; exact a_extract rfl rfl; apply r_op; exact rfl; exact rfl; apply g_extract; exact a_extract rfl rfl; apply r_op; exact rfl; exact rfl; apply a_assign; (conv => (lhs; whnf)); apply r_op; exact rfl; exact rfl; apply a_assign; (conv => (lhs; whnf)); (with_reducible refine runs_done ?_); refine W.seq ?_; refine W.seq ?_
    refine W.regionL (by decide +kernel) rfl ?_; apply r_op; exact rfl; exact rfl; apply a_move; (conv => (lhs; whnf)); apply r_op; exact rfl; exact rfl; apply a_move; (conv => (lhs; whnf)); apply r_callS; exact rfl; exact rfl; decide; exact rfl; exact rfl; exact rfl; infer_instance; exact h2; apply r_op; exact rfl; exact rfl; apply g_unOp; exact a_not rfl; (with_reducible refine runs_done ?_)
    refine W.condF rfl (by exact rfl) ?_; refine W.skip ?_; show W _ _ _ _ _ _ _; refine W.seq ?_; refine W.regionL (by decide +kernel) rfl ?_; apply r_op; exact rfl; exact rfl; apply a_move; (conv => (lhs; whnf)); apply r_op; exact rfl; exact rfl; apply a_assign; (conv => (lhs; whnf)); (with_reducible refine runs_done ?_); refine W.ret ?_; show Q Exit.ret _ _; refine post_p hQ rfl rfl ?_
    (conv => (lhs; whnf))
    exact ⟨rfl, rfl⟩
  | some g =>
    refine W.seq ?_; refine W.regionL (by decide +kernel) rfl ?_; apply r_boxF; exact rfl; exact rfl; exact rfl; (conv => (lhs; whnf)); exact rfl; apply r_op; exact rfl; exact rfl; apply a_assign; (conv => (lhs; whnf)); (with_reducible refine runs_done ?_); refine W.seq ?_; refine W.regionL (by decide +kernel) rfl ?_; apply r_op; exact rfl; exact rfl; apply a_move; (conv => (lhs; whnf)); apply r_op
    exact rfl; exact rfl; apply g_nilCheck; exact a_nilCheck rfl rfl; apply r_op; exact rfl; exact rfl; apply g_fieldAddr; exact a_fieldAddrP rfl (by decide); apply r_op; exact rfl; exact rfl; exact a_makeFunc rfl rfl; apply r_callS; exact rfl; exact rfl; decide; exact rfl; exact rfl; exact rfl; infer_instance; exact h1; apply r_op; exact rfl; exact rfl; apply a_move; (conv => (lhs; whnf))
    apply r_op; exact rfl; exact rfl; apply g_extract; exact a_extract rfl rfl; apply r_op; exact rfl; exact rfl; apply g_extract; exact a_extract rfl rfl; apply r_op; exact rfl; exact rfl; apply a_assign; (conv => (lhs; whnf)); apply r_op; exact rfl; exact rfl; apply a_assign; (conv => (lhs; whnf)); (with_reducible refine runs_done ?_); refine W.seq ?_; refine W.seq ?_
    refine W.regionL (by decide +kernel) rfl ?_; apply r_op; exact rfl; exact rfl; apply a_move; (conv => (lhs; whnf)); apply r_op; exact rfl; exact rfl; apply a_move; (conv => (lhs; whnf)); apply r_callS; exact rfl; exact rfl; decide; exact rfl; exact rfl; exact rfl; infer_instance; exact h2; apply r_op; exact rfl; exact rfl; apply g_unOp; exact a_not rfl; (with_reducible refine runs_done ?_)
    refine W.condT rfl (by exact rfl) ?_; refine W.seq ?_; refine W.regionL (by decide +kernel) rfl ?_; apply r_op; exact rfl; exact rfl; apply a_assign; (conv => (lhs; whnf)); (with_reducible refine runs_done ?_); refine W.ret ?_; show Q Exit.ret _ _; refine post_p hQ rfl rfl ?_; (conv => (lhs; whnf))
    exact ⟨rfl, rfl⟩
end Go.Proofs.YtkbmkhhcppfcnaaDoor
end
section
set_option linter.unusedVariables false
set_option linter.unusedSimpArgs false
set_option maxHeartbeats 400000
namespace Go.Proofs.YtkbmkhhcppfcnaaDoor
open Go.Al Go.RowKit
theorem row_ext {x y : Row} (h : x.key = y.key) (k : x.val = y.val) : x = y := by cases x; cases y; simp_all
theorem take_succ_iff {α : Type} {a b : List α} {i : Nat} (h : i < a.length) (k : i < b.length) (e : a.take i = b.take i) : a.take (i + 1) = b.take (i + 1) ↔ a[i] = b[i] := by
  rw [List.take_succ_eq_append_getElem h, List.take_succ_eq_append_getElem k, e]
  exact ⟨fun h => by simpa using List.append_cancel_left h, fun h => by rw [h]⟩
set_option maxRecDepth 100000 in
theorem sameRows_any (w0 : World) (a b : List Row) (ha : a.length ≤ 1000000000) : CallP Tryd.prog w0 15 [eRows a, eRows b] (.bool (decide (a = b))) := by
  refine CallP.start Tryd.func15 rfl Tryd.ntmps15 (by simp) fun σ Q hQ => ?_
  refine W.seq ?_; refine W.regionL (by decide +kernel) rfl ?_; apply r_op; exact rfl; exact rfl; apply a_assign; (conv => (lhs; whnf)); (with_reducible refine runs_done ?_); refine W.seq ?_; refine W.seq ?_; refine W.regionL (by decide +kernel) rfl ?_; apply r_op; exact rfl; exact rfl; apply a_move; (conv => (lhs; whnf)); apply r_op; exact rfl; exact rfl; apply g_call; exact a_len_slc rfl
  apply r_op; exact rfl; exact rfl; apply a_move; (conv => (lhs; whnf)); apply r_op; exact rfl; exact rfl; apply g_call; exact a_len_slc rfl; apply r_op; exact rfl; exact rfl; apply g_binOp; exact a_binI rfl rfl rfl; (with_reducible refine runs_done ?_); refine W.cond rfl (fun hc => ?_) (fun hc => ?_); refine W.seq ?_; refine W.regionL (by decide +kernel) rfl ?_; apply r_op; exact rfl; exact rfl
  apply a_assign; (conv => (lhs; whnf)); (with_reducible refine runs_done ?_); refine W.ret ?_; show Q Exit.ret _ _; refine post_q hQ (by apply res_tmp; exact rfl; exact res_nil) (.inl rfl) (by exact .refl _) ?_; (conv => (lhs; whnf)); rotate_left; refine W.skip ?_; show W _ _ _ _ _ _ _; refine W.seq ?_; refine W.seq ?_; refine W.regionL (by decide +kernel) rfl ?_; apply r_op; exact rfl; exact rfl
  apply a_assign; (conv => (lhs; whnf)); (with_reducible refine runs_done ?_); refine W.block ?_; rotate_left
  · have : ¬ a = b := by rintro rfl; simp at hc
    simp [this]
  · have hlen : a.length = b.length := by simp at hc; omega
    clear hc
    refine W.loop (fun k E s => ∃ i : Nat, i ≤ a.length ∧ k = a.length - i ∧ s = σ ∧ a.take i = b.take i ∧ Has [(0, eRows a), (1, eRows b), (5, .int .i64 i)] E) a.length ⟨0, Nat.zero_le _, rfl, rfl, by simp, by exact Has.by (by repeat (first | exact trivial | refine ⟨by first | trivial | exact Weak.refl _ | exact Weak.tok _ _ _ | exact Weak.of_eq (congrArg (AV.int _) (by omega)) | exact Weak.nils _ _ (.inr rfl), ?_⟩))⟩ ?_
    rintro k E s ⟨i, hi, rfl, rfl, htk, hE⟩; refine W.has hE ?_; clear hE; refine W.seq ?_; refine W.seq ?_; refine W.regionL (by decide +kernel) rfl ?_; apply r_op; exact rfl; exact rfl; apply a_move; (conv => (lhs; whnf)); apply r_op; exact rfl; exact rfl; apply a_move; (conv => (lhs; whnf)); apply r_op; exact rfl; exact rfl; apply g_call; exact a_len_slc rfl; apply r_op; exact rfl; exact rfl
    apply g_binOp; exact a_binI rfl rfl rfl; (with_reducible refine runs_done ?_); refine W.cond rfl (fun hc => ?_) (fun hc => ?_)
    · have hlt : i < a.length := by simp at hc; omega
      have ga : a[i]? = some a[i] := by simp [hlt]
      have gb : b[i]? = some (b[i]'(by omega)) := List.getElem?_eq_getElem (by omega)
      have ht := take_succ_iff hlt (show i < b.length by omega) htk
      generalize a[i] = x at ga ht
      generalize b[i]'(by omega) = y at gb ht
      refine W.skip ?_; show W _ _ _ _ _ _ _; refine W.seq ?_; refine W.block ?_; refine W.seq ?_; refine W.regionDK 1 [] Ty.mixed (by decide +kernel) (by decide +kernel) rfl ?_; apply r_op; exact rfl; exact rfl; apply a_move; (conv => (lhs; whnf)); apply r_op; exact rfl; exact rfl; apply a_move; (conv => (lhs; whnf)); apply r_op; exact rfl; exact rfl; apply g_indexAddr
      exact a_indexAddr rfl rfl (by decide) (by omega) (by exact get_map (by assumption)); apply r_op; exact rfl; exact rfl; apply g_fieldAddr; exact a_fieldAddr1 rfl (by decide) rfl; apply r_op; exact rfl; exact rfl; apply g_load; exact a_load1 rfl rfl; apply r_op; exact rfl; exact rfl; apply a_move; (conv => (lhs; whnf)); apply r_op; exact rfl; exact rfl; apply a_move; (conv => (lhs; whnf))
      apply r_op; exact rfl; exact rfl; apply g_indexAddr; exact a_indexAddr rfl rfl (by decide) (by omega) (by exact get_map (by assumption)); apply r_op; exact rfl; exact rfl; apply g_fieldAddr; exact a_fieldAddr1 rfl (by decide) rfl; apply r_op; exact rfl; exact rfl; apply g_load; exact a_load1 rfl rfl; apply r_op; exact rfl; exact rfl; apply g_binOp; exact a_binS rfl rfl rfl rfl; apply r_op
      exact rfl; exact rfl; apply a_move; (conv => (lhs; whnf)); refine q_split rfl rfl rfl (fun hg => ?_) (fun hg => ?_); apply q_skip; exact rfl; exact want_f rfl rfl rfl (by assumption); apply q_skip; exact rfl; exact want_f rfl rfl rfl (by assumption); apply q_skip; exact rfl; exact want_f rfl rfl rfl (by assumption); apply q_skip; exact rfl; exact want_f rfl rfl rfl (by assumption)
      apply q_skip; exact rfl; exact want_f rfl rfl rfl (by assumption); apply q_skip; exact rfl; exact want_f rfl rfl rfl (by assumption); apply q_skip; exact rfl; exact want_f rfl rfl rfl (by assumption); apply q_skip; exact rfl; exact want_f rfl rfl rfl (by assumption); apply q_skip; exact rfl; exact want_f rfl rfl rfl (by assumption); apply q_skip; exact rfl
      exact want_f rfl rfl rfl (by assumption); apply q_skip; exact rfl; exact want_f rfl rfl rfl (by assumption); apply q_skip; exact rfl; exact want_f rfl rfl rfl (by assumption); apply q_skip; exact rfl; exact want_f rfl rfl rfl (by assumption); apply r_op; exact rfl; exact rfl; apply g_pick; apply a_pickT rfl (by assumption); (conv => (lhs; whnf)); (with_reducible refine runs_done ?_)
      refine W.condT rfl (by exact rfl) ?_; refine W.seq ?_; refine W.regionL (by decide +kernel) rfl ?_; apply r_op; exact rfl; exact rfl; apply a_assign; (conv => (lhs; whnf)); (with_reducible refine runs_done ?_); refine W.ret ?_; show Q Exit.ret _ _; refine post_q hQ (by apply res_tmp; exact rfl; exact res_nil) (.inl rfl) (by exact .refl _) ?_; (conv => (lhs; whnf)); rotate_left; apply r_op
      exact rfl; exact want_t rfl rfl rfl (by assumption); apply a_move; (conv => (lhs; whnf)); apply r_op; exact rfl; exact want_t rfl rfl rfl (by assumption); apply a_move; (conv => (lhs; whnf)); apply r_op; exact rfl; exact want_t rfl rfl rfl (by assumption); apply g_indexAddr; exact a_indexAddr rfl rfl (by decide) (by omega) (by exact get_map (by assumption)); apply r_op; exact rfl
      exact want_t rfl rfl rfl (by assumption); apply g_fieldAddr; exact a_fieldAddr1 rfl (by decide) rfl; apply r_op; exact rfl; exact want_t rfl rfl rfl (by assumption); apply g_load; exact a_load1 rfl rfl; apply r_op; exact rfl; exact want_t rfl rfl rfl (by assumption); apply g_convert; exact a_bytesStr rfl; apply r_op; exact rfl; exact want_t rfl rfl rfl (by assumption); apply a_move
      (conv => (lhs; whnf)); apply r_op; exact rfl; exact want_t rfl rfl rfl (by assumption); apply a_move; (conv => (lhs; whnf)); apply r_op; exact rfl; exact want_t rfl rfl rfl (by assumption); apply g_indexAddr; exact a_indexAddr rfl rfl (by decide) (by omega) (by exact get_map (by assumption)); apply r_op; exact rfl; exact want_t rfl rfl rfl (by assumption); apply g_fieldAddr
      exact a_fieldAddr1 rfl (by decide) rfl; apply r_op; exact rfl; exact want_t rfl rfl rfl (by assumption); apply g_load; exact a_load1 rfl rfl; apply r_op; exact rfl; exact want_t rfl rfl rfl (by assumption); apply g_convert; exact a_bytesStr rfl; apply r_op; exact rfl; exact want_t rfl rfl rfl (by assumption); apply g_binOp; exact a_binS rfl rfl rfl rfl; apply r_op; exact rfl; exact rfl
      apply g_pick; apply a_pickF rfl (by assumption); (conv => (lhs; whnf)); (with_reducible refine runs_done ?_); refine W.cond rfl (fun hc => ?_) (fun hc => ?_); refine W.seq ?_; refine W.regionL (by decide +kernel) rfl ?_; apply r_op; exact rfl; exact rfl; apply a_assign; (conv => (lhs; whnf)); (with_reducible refine runs_done ?_); refine W.ret ?_; show Q Exit.ret _ _
      refine post_q hQ (by apply res_tmp; exact rfl; exact res_nil) (.inl rfl) (by exact .refl _) ?_; (conv => (lhs; whnf)); rotate_left; refine W.skip ?_; show W _ _ _ _ _ _ _; refine W.regionL (by decide +kernel) rfl ?_; apply r_op; exact rfl; exact rfl; apply a_move; (conv => (lhs; whnf)); apply r_op; exact rfl; exact rfl; apply g_binOp; exact a_add64 rfl rfl (by omega); apply r_op; exact rfl
      exact rfl; apply a_assign; (conv => (lhs; whnf)); (with_reducible refine runs_done ?_); rotate_left
      · have : ¬ a = b := fun e => by subst e; rw [ga] at gb; cases gb; simp at hg
        simp [this]
      · have : ¬ a = b := fun e => by subst e; rw [ga] at gb; cases gb; simp at hc
        simp [this]
      · have h1 : x.key = y.key := by simpa using hg
        have h2 : x.val = y.val := by simpa using hc
        exact ⟨a.length - (i + 1), by omega, i + 1, by omega, rfl, rfl, ht.2 (row_ext h1 h2), by exact Has.by (by repeat (first | exact trivial | refine ⟨by first | trivial | exact Weak.refl _ | exact Weak.tok _ _ _ | exact Weak.of_eq (congrArg (AV.int _) (by omega)) | exact Weak.nils _ _ (.inr rfl), ?_⟩))⟩
    · have hge : i = a.length := by simp at hc; omega
      refine W.exit ?_; show W _ _ _ _ _ _ _; refine W.seq ?_; refine W.regionL (by decide +kernel) rfl ?_; apply r_op; exact rfl; exact rfl; apply a_assign; (conv => (lhs; whnf)); (with_reducible refine runs_done ?_); refine W.ret ?_; show Q Exit.ret _ _; refine post_q hQ (by apply res_tmp; exact rfl; exact res_nil) (.inl rfl) (by exact .refl _) ?_; (conv => (lhs; whnf))
      have : a = b := by rw [hge, List.take_length, hlen, List.take_length] at htk; exact htk
      simp [this]
end Go.Proofs.YtkbmkhhcppfcnaaDoor
end
section
set_option linter.unusedVariables false
set_option linter.unusedSimpArgs false
set_option maxRecDepth 100000
set_option maxHeartbeats 1000000
namespace Go.Proofs.YtkbmkhhcppfcnaaDoor
open Go.Al Go.RowKit
theorem sub48 {c : UInt8} (h : 48 ≤ c.toNat ∧ c.toNat ≤ 57) : IntKind.i64.wrap (((Al.byteOf ((c.toNat : Int) - 48)).toNat : Nat) : Int) = ((c.toNat - 48 : Nat) : Int) := by
  have e : ((c.toNat : Int) - 48) = ((c.toNat - 48 : Nat) : Int) := by omega
  rw [e, byteOf_toNat _ (by omega), IntWalk.i64_in _ (by omega)]
theorem parts_any (w0 : World) (l : List UInt8) (c0 t : UInt8) (id seq : Nat) (hl : l.length = 22) (g0 : l[(0 : Int).toNat]? = some c0) (g1 : l[(1 : Int).toNat]? = some t) (hc0 : 48 ≤ c0.toNat ∧ c0.toNat ≤ 57) (ht : 97 ≤ t.toNat ∧ t.toNat ≤ 122)
    (hA1 : CallP Tryd.prog w0 52 [.str ((l.take (12 : Int).toNat).drop (2 : Int).toNat)] (.tup [.int .i64 id, .nilifc])) (hA2 : CallP Tryd.prog w0 52 [.str ((l.take ((l.length : Nat) : Int).toNat).drop (12 : Int).toNat)] (.tup [.int .i64 seq, .nilifc]))
    (hK : CallP Tryd.prog w0 35 [.int .i64 (IntKind.i64.wrap (((Al.byteOf ((c0.toNat : Int) - 48)).toNat : Nat) : Int)), .int .u8 t.toNat, .int .i64 id, .int .i64 seq] (.str l)) :
    CallP Tryd.prog w0 44 [.str l] (.tup [.int .i64 (c0.toNat - 48 : Nat), .int .u8 t.toNat, .int .i64 id, .int .i64 seq, .bool true]) := by
  refine CallP.start Tryd.func44 rfl Tryd.ntmps44 (by simp) fun σ Q hQ => ?_
  have d0 : (!decide (((l.length : Nat) : Int) = 22)) = false := by simp [hl]
  have d1 : decide ((c0.toNat : Int) < 48) = false := decide_eq_false (by omega)
  have d2 : decide ((57 : Int) < (c0.toNat : Int)) = false := decide_eq_false (by omega)
  have d3 : decide ((t.toNat : Int) < 97) = false := decide_eq_false (by omega)
  have d4 : decide ((122 : Int) < (t.toNat : Int)) = false := decide_eq_false (by omega)
  have d5 : (!decide (l = l)) = false := by simp
  refine W.seq ?_; refine W.regionL (by decide +kernel) rfl ?_; apply r_op; exact rfl; exact rfl; apply a_assign; (conv => (lhs; whnf)); apply r_op; exact rfl; exact rfl; apply a_assign; (conv => (lhs; whnf)); apply r_op; exact rfl; exact rfl; apply a_assign; (conv => (lhs; whnf)); apply r_op; exact rfl; exact rfl; apply a_assign; (conv => (lhs; whnf)); apply r_op; exact rfl; exact rfl
  apply a_assign; (conv => (lhs; whnf)); (with_reducible refine runs_done ?_); refine W.seq ?_; refine W.seq ?_; refine W.regionL (by decide +kernel) rfl ?_; apply r_op; exact rfl; exact rfl; apply a_move; (conv => (lhs; whnf)); apply r_op; exact rfl; exact rfl; apply g_call; exact a_len_str rfl; apply r_op; exact rfl; exact rfl; apply g_binOp; exact a_binI rfl rfl rfl; apply r_op; exact rfl
  exact rfl; apply a_move; (conv => (lhs; whnf)); apply r_op; exact rfl; exact want_t rfl rfl rfl (by assumption); apply a_move; (conv => (lhs; whnf)); apply r_op; exact rfl; exact want_t rfl rfl rfl (by assumption); apply g_index; exact a_indexS rfl rfl (by omega) (by assumption); apply r_op; exact rfl; exact want_t rfl rfl rfl (by assumption); apply g_binOp; exact a_binI rfl rfl rfl; apply r_op
  exact rfl; exact rfl; apply g_pick; apply a_pickF rfl (by assumption); (conv => (lhs; whnf)); apply r_op; exact rfl; exact rfl; apply a_move; (conv => (lhs; whnf)); apply r_op; exact rfl; exact want_t rfl rfl rfl (by assumption); apply a_move; (conv => (lhs; whnf)); apply r_op; exact rfl; exact want_t rfl rfl rfl (by assumption); apply g_index; exact a_indexS rfl rfl (by omega) (by assumption)
  apply r_op; exact rfl; exact want_t rfl rfl rfl (by assumption); apply g_binOp; exact a_binI rfl rfl rfl; apply r_op; exact rfl; exact rfl; apply g_pick; apply a_pickF rfl (by assumption); (conv => (lhs; whnf)); apply r_op; exact rfl; exact rfl; apply a_move; (conv => (lhs; whnf)); apply r_op; exact rfl; exact want_t rfl rfl rfl (by assumption); apply a_move; (conv => (lhs; whnf)); apply r_op
  exact rfl; exact want_t rfl rfl rfl (by assumption); apply g_index; exact a_indexS rfl rfl (by omega) (by assumption); apply r_op; exact rfl; exact want_t rfl rfl rfl (by assumption); apply g_binOp; exact a_binI rfl rfl rfl; apply r_op; exact rfl; exact rfl; apply g_pick; apply a_pickF rfl (by assumption); (conv => (lhs; whnf)); apply r_op; exact rfl; exact rfl; apply a_move
  (conv => (lhs; whnf)); apply r_op; exact rfl; exact want_t rfl rfl rfl (by assumption); apply a_move; (conv => (lhs; whnf)); apply r_op; exact rfl; exact want_t rfl rfl rfl (by assumption); apply g_index; exact a_indexS rfl rfl (by omega) (by assumption); apply r_op; exact rfl; exact want_t rfl rfl rfl (by assumption); apply g_binOp; exact a_binI rfl rfl rfl; apply r_op; exact rfl; exact rfl
  apply g_pick; apply a_pickF rfl (by assumption); (conv => (lhs; whnf)); (with_reducible refine runs_done ?_); refine W.condF rfl (by assumption) ?_; refine W.skip ?_; show W _ _ _ _ _ _ _; refine W.seq ?_; refine W.regionL (by decide +kernel) rfl ?_; apply r_op; exact rfl; exact rfl; apply a_move; (conv => (lhs; whnf)); apply r_op; exact rfl; exact rfl; apply g_index
  exact a_indexS rfl rfl (by omega) (by assumption); apply r_op; exact rfl; exact rfl; apply g_binOp; exact a_u8sub rfl rfl; apply r_op; exact rfl; exact rfl; apply g_convert; exact a_convI rfl; apply r_op; exact rfl; exact rfl; apply a_assign; (conv => (lhs; whnf)); (with_reducible refine runs_done ?_); refine W.seq ?_; refine W.regionL (by decide +kernel) rfl ?_; apply r_op; exact rfl; exact rfl
  apply a_move; (conv => (lhs; whnf)); apply r_op; exact rfl; exact rfl; apply g_slice; exact a_sliceS rfl rfl rfl (by omega); apply r_callP; exact rfl; exact rfl; exact rfl; exact rfl; exact rfl; infer_instance; exact hA1; apply r_op; exact rfl; exact rfl; apply a_move; (conv => (lhs; whnf)); apply r_op; exact rfl; exact rfl; apply g_extract; exact a_extract rfl rfl; apply r_op; exact rfl
  exact rfl; apply g_extract; exact a_extract rfl rfl; apply r_op; exact rfl; exact rfl; apply a_assign; (conv => (lhs; whnf)); apply r_op; exact rfl; exact rfl; apply a_assign; (conv => (lhs; whnf)); (with_reducible refine runs_done ?_); refine W.seq ?_; refine W.regionL (by decide +kernel) rfl ?_; apply r_op; exact rfl; exact rfl; apply a_move; (conv => (lhs; whnf)); apply r_op; exact rfl
  exact rfl; apply g_slice; exact a_sliceS rfl rfl rfl (by omega); apply r_callP; exact rfl; exact rfl; exact rfl; exact rfl; exact rfl; infer_instance; exact hA2; apply r_op; exact rfl; exact rfl; apply a_move; (conv => (lhs; whnf)); apply r_op; exact rfl; exact rfl; apply g_extract; exact a_extract rfl rfl; apply r_op; exact rfl; exact rfl; apply g_extract; exact a_extract rfl rfl; apply r_op
  exact rfl; exact rfl; apply a_assign; (conv => (lhs; whnf)); apply r_op; exact rfl; exact rfl; apply a_assign; (conv => (lhs; whnf)); (with_reducible refine runs_done ?_); refine W.seq ?_; refine W.seq ?_; refine W.regionL (by decide +kernel) rfl ?_; apply r_op; exact rfl; exact rfl; apply a_move; (conv => (lhs; whnf)); apply r_op; exact rfl; exact rfl; apply g_binOp
  exact a_nilI rfl rfl (by exact .inl rfl) rfl rfl rfl; apply r_op; exact rfl; exact rfl; apply a_move; (conv => (lhs; whnf)); apply r_op; exact rfl; exact rfl; apply a_move; (conv => (lhs; whnf)); apply r_op; exact rfl; exact rfl; apply g_binOp; exact a_nilI rfl rfl (by exact .inl rfl) rfl rfl rfl; apply r_op; exact rfl; exact rfl; apply g_pick; apply a_pickF rfl (by exact rfl)
  (conv => (lhs; whnf)); apply r_op; exact rfl; exact rfl; apply a_move; (conv => (lhs; whnf)); apply r_op; exact rfl; exact rfl; apply a_move; (conv => (lhs; whnf)); apply r_op; exact rfl; exact rfl; apply a_move; (conv => (lhs; whnf)); apply r_op; exact rfl; exact rfl; apply g_index; exact a_indexS rfl rfl (by omega) (by assumption); apply r_op; exact rfl; exact rfl; apply a_move
  (conv => (lhs; whnf)); apply r_op; exact rfl; exact rfl; apply a_move; (conv => (lhs; whnf)); apply r_callP; exact rfl; exact rfl; exact rfl; exact rfl; exact rfl; infer_instance; exact hK; apply r_op; exact rfl; exact rfl; apply a_move; (conv => (lhs; whnf)); apply r_op; exact rfl; exact rfl; apply g_binOp; exact a_binS rfl rfl rfl rfl; apply r_op; exact rfl; exact rfl; apply g_pick
  apply a_pickF rfl (by exact rfl); (conv => (lhs; whnf)); (with_reducible refine runs_done ?_); refine W.condF rfl (by assumption) ?_; refine W.skip ?_; show W _ _ _ _ _ _ _; refine W.seq ?_; refine W.regionDK 1 [] Ty.mixed (by decide +kernel) (by decide +kernel) rfl ?_; apply r_op; exact rfl; exact rfl; apply a_move; (conv => (lhs; whnf)); apply r_op; exact rfl; exact rfl; apply a_move
  (conv => (lhs; whnf)); apply r_op; exact rfl; exact rfl; apply g_index; exact a_indexS rfl rfl (by omega) (by assumption); apply r_op; exact rfl; exact rfl; apply a_move; (conv => (lhs; whnf)); apply r_op; exact rfl; exact rfl; apply a_move; (conv => (lhs; whnf)); apply r_op; exact rfl; exact rfl; apply a_assign; (conv => (lhs; whnf)); apply r_op; exact rfl; exact rfl; apply a_assign
  (conv => (lhs; whnf)); apply r_op; exact rfl; exact rfl; apply a_assign; (conv => (lhs; whnf)); apply r_op; exact rfl; exact rfl; apply a_assign; (conv => (lhs; whnf)); apply r_op; exact rfl; exact rfl; apply a_assign; (conv => (lhs; whnf)); (with_reducible refine runs_done ?_); refine W.ret ?_; show Q Exit.ret _ _
  refine post_q hQ (by apply res_tmp; exact rfl; apply res_tmp; exact rfl; apply res_tmp; exact rfl; apply res_tmp; exact rfl; apply res_tmp; exact rfl; exact res_nil) (.inl rfl) (by exact .refl _) ?_; (conv => (lhs; whnf))
  rw [← sub48 hc0]; rfl
theorem alike_any (w0 : World) (x y : Row) : CallP Tryd.prog w0 48 [eRow x, eRow y] (.bool (decide (x = y))) := by
  refine CallP.start Tryd.func48 rfl Tryd.ntmps48 (by simp) fun σ Q hQ => ?_
  refine W.seq ?_; refine W.regionL (by decide +kernel) rfl ?_; apply r_boxF; exact rfl; exact rfl; exact rfl; (conv => (lhs; whnf)); exact rfl; apply r_boxF; exact rfl; exact rfl; exact rfl; (conv => (lhs; whnf)); exact rfl; apply r_op; exact rfl; exact rfl; apply a_assign; (conv => (lhs; whnf)); (with_reducible refine runs_done ?_); refine W.seq ?_; refine W.regionL (by decide +kernel) rfl ?_
  apply r_op; exact rfl; exact rfl; apply g_fieldAddr; exact a_fieldAddr1 rfl (by decide) rfl; apply r_op; exact rfl; exact rfl; apply g_load; exact a_load1 rfl rfl; apply r_op; exact rfl; exact rfl; apply g_fieldAddr; exact a_fieldAddr1 rfl (by decide) rfl; apply r_op; exact rfl; exact rfl; apply g_load; exact a_load1 rfl rfl; apply r_op; exact rfl; exact rfl; apply g_binOp
  exact a_binS rfl rfl rfl rfl; apply r_op; exact rfl; exact rfl; apply a_move; (conv => (lhs; whnf)); refine q_split rfl rfl rfl (fun hg => ?_) (fun hg => ?_); apply r_op; exact rfl; exact want_t rfl rfl rfl (by assumption); apply g_fieldAddr; exact a_fieldAddr1 rfl (by decide) rfl; apply r_op; exact rfl; exact want_t rfl rfl rfl (by assumption); apply g_load; exact a_load1 rfl rfl; apply r_op
  exact rfl; exact want_t rfl rfl rfl (by assumption); apply g_convert; exact a_bytesStr rfl; apply r_op; exact rfl; exact want_t rfl rfl rfl (by assumption); apply g_fieldAddr; exact a_fieldAddr1 rfl (by decide) rfl; apply r_op; exact rfl; exact want_t rfl rfl rfl (by assumption); apply g_load; exact a_load1 rfl rfl; apply r_op; exact rfl; exact want_t rfl rfl rfl (by assumption); apply g_convert
  exact a_bytesStr rfl; apply r_op; exact rfl; exact want_t rfl rfl rfl (by assumption); apply g_binOp; exact a_binS rfl rfl rfl rfl; apply r_op; exact rfl; exact rfl; apply g_pick; apply a_pickT rfl (by assumption); (conv => (lhs; whnf)); apply r_op; exact rfl; exact rfl; apply a_assign; (conv => (lhs; whnf)); (with_reducible refine runs_done ?_); refine W.ret ?_; show Q Exit.ret _ _
  refine post_q hQ (by apply res_tmp; exact rfl; exact res_nil) (.inl rfl) (by exact .refl _) ?_; (conv => (lhs; whnf)); rotate_left; apply q_skip; exact rfl; exact want_f rfl rfl rfl (by assumption); apply q_skip; exact rfl; exact want_f rfl rfl rfl (by assumption); apply q_skip; exact rfl; exact want_f rfl rfl rfl (by assumption); apply q_skip; exact rfl; exact want_f rfl rfl rfl (by assumption)
  apply q_skip; exact rfl; exact want_f rfl rfl rfl (by assumption); apply q_skip; exact rfl; exact want_f rfl rfl rfl (by assumption); apply q_skip; exact rfl; exact want_f rfl rfl rfl (by assumption); apply r_op; exact rfl; exact rfl; apply g_pick; apply a_pickF rfl (by assumption); (conv => (lhs; whnf)); apply r_op; exact rfl; exact rfl; apply a_assign; (conv => (lhs; whnf))
  (with_reducible refine runs_done ?_); refine W.ret ?_; show Q Exit.ret _ _; refine post_q hQ (by apply res_tmp; exact rfl; exact res_nil) (.inl rfl) (by exact .refl _) ?_; (conv => (lhs; whnf)); rotate_left
  · have h1 : x.key = y.key := by simpa using ‹decide (x.key = y.key) = true›
    have : (x.val = y.val) ↔ x = y := ⟨fun h => row_ext h1 h, fun h => by rw [h]⟩
    simp only [this]
  · have : ¬ x = y := fun e => by subst e; simp at *
    simp [this]
theorem eqRows_any (w0 : World) (a b : List Row) (ta tb : Tok) (ha : a.length ≤ 1000000000) : CallP Tryd.prog w0 49 [.slc 2 (a.map eRow) ta, .slc 2 (b.map eRow) tb, .fn (.func 48) [] []] (.bool (decide (a = b))) := by
  refine CallP.start Tryd.func49 rfl Tryd.ntmps49 (by simp) fun σ Q hQ => ?_
  refine W.seq ?_; refine W.regionL (by decide +kernel) rfl ?_; apply r_op; exact rfl; exact rfl; apply a_assign; (conv => (lhs; whnf)); (with_reducible refine runs_done ?_); refine W.seq ?_; refine W.seq ?_; refine W.regionL (by decide +kernel) rfl ?_; apply r_op; exact rfl; exact rfl; apply a_move; (conv => (lhs; whnf)); apply r_op; exact rfl; exact rfl; apply g_call; exact a_len_slc rfl
  apply r_op; exact rfl; exact rfl; apply a_move; (conv => (lhs; whnf)); apply r_op; exact rfl; exact rfl; apply g_call; exact a_len_slc rfl; apply r_op; exact rfl; exact rfl; apply g_binOp; exact a_binI rfl rfl rfl; (with_reducible refine runs_done ?_); refine W.cond rfl (fun hc => ?_) (fun hc => ?_); refine W.seq ?_; refine W.regionL (by decide +kernel) rfl ?_; apply r_op; exact rfl; exact rfl
  apply a_assign; (conv => (lhs; whnf)); (with_reducible refine runs_done ?_); refine W.ret ?_; show Q Exit.ret _ _; refine post_q hQ (by apply res_tmp; exact rfl; exact res_nil) (.inl rfl) (by exact .refl _) ?_; (conv => (lhs; whnf)); rotate_left; refine W.skip ?_; show W _ _ _ _ _ _ _; refine W.seq ?_; refine W.seq ?_; refine W.regionL (by decide +kernel) rfl ?_; apply r_op; exact rfl; exact rfl
  apply a_move; (conv => (lhs; whnf)); apply r_op; exact rfl; exact rfl; apply g_call; exact a_len_slc rfl; apply r_op; exact rfl; exact rfl; apply a_move; (conv => (lhs; whnf)); (with_reducible refine runs_done ?_); refine W.block ?_; rotate_left
  · have : ¬ a = b := by rintro rfl; simp at hc
    simp [this]
  · have hlen : a.length = b.length := by simp at hc; omega
    clear hc
    refine W.loop (fun k E s => ∃ i : Nat, i ≤ a.length ∧ k = a.length - i ∧ St.Le σ s ∧ a.take i = b.take i ∧ Has [(1, .slc 2 (b.map eRow) .no), (2, .fn (.func 48) [] []), (15, .slc 2 (a.map eRow) .no), (16, .int .i64 a.length), (17, .int .i64 i)] E) a.length ⟨0, Nat.zero_le _, rfl, .refl _, by simp, ?_⟩ ?_
    · rw [List.length_map]
      exact Has.by (by repeat (first | exact trivial | refine ⟨by first | trivial | exact Weak.refl _ | exact Weak.tok _ _ _ | exact Weak.of_eq (congrArg (AV.int _) (by omega)) | exact Weak.nils _ _ (.inr rfl), ?_⟩))
    rintro k E s ⟨i, hi, rfl, hle, htk, hE⟩; refine W.weaken (fun t => .refl _) hle ?_; refine W.has hE ?_; clear hE hle; refine W.seq ?_; refine W.regionL (by decide +kernel) rfl ?_; apply r_op; exact rfl; exact rfl; apply g_binOp; exact a_binI rfl rfl rfl; (with_reducible refine runs_done ?_); refine W.seq ?_; refine W.cond rfl (fun hc => ?_) (fun hc => ?_)
    · have hlt : i < a.length := by simp at hc; omega
      have ga : a[i]? = some a[i] := by simp [hlt]
      have gb : b[i]? = some (b[i]'(by omega)) := List.getElem?_eq_getElem (by omega)
      have ht := take_succ_iff hlt (show i < b.length by omega) htk
      generalize a[i] = x at ga ht
      generalize b[i]'(by omega) = y at gb ht
      clear hc; refine W.skip ?_; show W _ _ _ _ _ _ _; refine W.seq ?_; refine W.block ?_; refine W.seq ?_; refine W.regionL (by decide +kernel) rfl ?_; apply r_op; exact rfl; exact rfl; apply a_move; (conv => (lhs; whnf)); apply r_op; exact rfl; exact rfl; apply g_indexAddr; exact a_indexAddr rfl rfl (by decide) (by omega) (by exact get_map (by assumption)); apply r_op; exact rfl; exact rfl
      apply g_load; exact a_loadA rfl (by rfl) rfl; apply r_alloc; exact rfl; exact rfl; decide; exact rfl; (conv => (lhs; whnf)); intro b1 hb1; apply r_op; exact rfl; exact rfl; apply a_assign; (conv => (lhs; whnf)); apply r_store; exact rfl; exact rfl; exact rfl; decide; infer_instance; exact rfl; exact setBox_same; (conv => (lhs; whnf)); exact rfl; (conv => (lhs; whnf)); exact rfl
      exact of_decide_eq_true rfl; exact setL_whole rfl; (with_reducible refine runs_done ?_); refine W.seq ?_; refine W.regionL (by decide +kernel) rfl ?_; apply r_op; exact rfl; exact rfl; apply a_move; (conv => (lhs; whnf)); apply r_op; exact rfl; exact rfl; apply a_move; (conv => (lhs; whnf)); apply r_op; exact rfl; exact rfl; apply g_indexAddr
      exact a_indexAddr rfl rfl (by decide) (by omega) (by exact get_map (by assumption)); apply r_op; exact rfl; exact rfl; apply g_load; exact a_loadA rfl (by rfl) rfl; apply r_alloc; exact rfl; exact rfl; decide; exact rfl; (conv => (lhs; whnf)); intro b1 hb1; apply r_store; exact rfl; exact rfl; exact rfl; decide; infer_instance; exact rfl; exact setBox_same; (conv => (lhs; whnf)); exact rfl
      (conv => (lhs; whnf)); exact rfl; exact of_decide_eq_true rfl; exact setL_whole rfl; (with_reducible refine runs_done ?_); refine W.seq ?_; refine W.regionL (by decide +kernel) rfl ?_; apply r_op; exact rfl; exact rfl; apply a_move; (conv => (lhs; whnf)); apply r_load; exact rfl; exact rfl; exact rfl; decide; exact rfl; apply hb_ne (by exact ne_none' (by assumption))
      apply hb_ne (by exact ne_none' (by assumption)); exact setBox_same; exact aLoadA rfl (by rfl) rfl; apply r_load; exact rfl; exact rfl; exact rfl; decide; exact rfl; exact setBox_same; exact aLoadA rfl (by rfl) rfl; apply r_callP; exact rfl; exact rfl; exact rfl; exact rfl; exact rfl; infer_instance; exact alike_any w0 _ _; apply r_op; exact rfl; exact rfl; apply g_unOp; exact a_not rfl
      (with_reducible refine runs_done ?_); refine W.cond rfl (fun hc => ?_) (fun hc => ?_); refine W.seq ?_; refine W.regionL (by decide +kernel) rfl ?_; apply r_op; exact rfl; exact rfl; apply a_assign; (conv => (lhs; whnf)); (with_reducible refine runs_done ?_); refine W.ret ?_; show Q Exit.ret _ _
      refine post_q hQ (by apply res_tmp; exact rfl; exact res_nil) (.inl rfl) (by refine le_setBox ?_ (by exact none_in (none_in (by assumption))); refine le_setBox ?_ (by exact none_in (none_in (by assumption))); refine le_setBox ?_ (by assumption); refine le_setBox ?_ (by assumption); exact .refl _) ?_
      (conv => (lhs; whnf)); rotate_left; refine W.skip ?_; show W _ _ _ _ _ _ _; refine W.regionL (by decide +kernel) rfl ?_; apply r_op; exact rfl; exact rfl; apply g_binOp; exact a_add64 rfl rfl (by omega); apply r_op; exact rfl; exact rfl; apply a_move; (conv => (lhs; whnf)); (with_reducible refine runs_done ?_); rotate_left
      · have : ¬ a = b := fun e => by subst e; rw [ga] at gb; cases gb; simp at hc
        simp [this]
      · have hxy : x = y := by simpa using hc
        exact ⟨a.length - (i + 1), by omega, i + 1, by omega, rfl, by repeat (first | assumption | exact .refl _ | refine le_setBox ?_ (by first | assumption | exact none_in (by assumption) | exact none_in (none_in (by assumption)) | exact none_in (none_in (none_in (by assumption))) | fail) | exact Moves.le (by assumption) | refine .trans ?_ (Moves.le (by assumption))), ht.2 hxy, by exact Has.by (by repeat (first | exact trivial | refine ⟨by first | trivial | exact Weak.refl _ | exact Weak.tok _ _ _ | exact Weak.of_eq (congrArg (AV.int _) (by omega)) | exact Weak.nils _ _ (.inr rfl), ?_⟩))⟩
    · have hge : i = a.length := by simp at hc; omega
      refine W.exit ?_; show W _ _ _ _ _ _ _; refine W.seq ?_; refine W.regionL (by decide +kernel) rfl ?_; apply r_op; exact rfl; exact rfl; apply a_assign; (conv => (lhs; whnf)); (with_reducible refine runs_done ?_); refine W.ret ?_; show Q Exit.ret _ _; refine post_q hQ (by apply res_tmp; exact rfl; exact res_nil) (.inl rfl) (by exact .refl _) ?_; (conv => (lhs; whnf))
      have : a = b := by rw [hge, List.take_length, hlen, List.take_length] at htk; exact htk
      simp [this]
end Go.Proofs.YtkbmkhhcppfcnaaDoor
end
section
set_option linter.unusedVariables false
namespace Go.Proofs.YtkbmkhhcppfcnaaDoor
open Go.Al
def deadN (m : Msg) : Int := if m.dead = true then 1 else 0
def qB (m : Msg) : List UInt8 := txt m.body ++ txt m.attr ++ num m.tries ++ num m.until_ ++ num (deadN m)
def xB (m : Msg) : List UInt8 := num m.prio ++ num (deathN m)
def sB (x : Sub) : List UInt8 := txt x.name ++ txt x.topic ++ num x.lease ++ num x.most ++ num x.floor
def ack1 (id n : Int) : Row := ⟨rkey 1 97 id n, []⟩
def note1 (x : Sub) : List Row := if x.note = [] then [] else [⟨rkey 1 110 x.id 0, txt x.note⟩]
def q1 (id : Int) (m : Msg) : Row := ⟨rkey 1 113 id m.seq, qB m⟩
def s1 (x : Sub) : Row := ⟨rkey 1 115 x.id 0, sB x⟩
def want1 (x : Sub) : List Row := if x.want = [] then [] else [⟨rkey 1 119 x.id 0, txt x.want⟩]
def x1 (id : Int) (m : Msg) : List Row := if m.prio ≠ 0 ∨ m.dead = true then [⟨rkey 1 120 id m.seq, xB m⟩] else []
def encA (x : Sub) : List Row := x.acks.map (ack1 x.id) ++ note1 x
def encB (x : Sub) : List Row := encA x ++ x.queue.map (q1 x.id) ++ [s1 x]
def enc1 (x : Sub) : List Row := encB x ++ want1 x ++ x.queue.flatMap (x1 x.id)
theorem flat_take_snoc {α β : Type} (f : α → List β) {l : List α} {i : Nat} {a : α} (h : l[i]? = some a) : (l.take (i + 1)).flatMap f = (l.take i).flatMap f ++ f a := by
  obtain ⟨hi, rfl⟩ := List.getElem?_eq_some_iff.1 h
  rw [List.take_succ_eq_append_getElem hi, List.flatMap_append]; simp
theorem note1_len (x : Sub) : (note1 x).length ≤ 1 := by unfold note1; split <;> simp
theorem want1_len (x : Sub) : (want1 x).length ≤ 1 := by unfold want1; split <;> simp
theorem x1_len (id : Int) (m : Msg) : (x1 id m).length ≤ 1 := by unfold x1; split <;> simp
theorem x1s_len (id : Int) : ∀ l : List Msg, (l.flatMap (x1 id)).length ≤ l.length
  | [] => by simp
  | m :: l => by
    have h1 := x1_len id m
    have h2 := x1s_len id l
    rw [List.flatMap_cons, List.length_append, List.length_cons]; omega
end Go.Proofs.YtkbmkhhcppfcnaaDoor
end
section
set_option linter.unusedVariables false
set_option maxRecDepth 100000
namespace Go.Proofs.YtkbmkhhcppfcnaaDoor.Ty
open Go.Al
theorem ti1 : TI.ok Tryd.prog 1 ⟨.fn, 1⟩ := ⟨⟨_, _, _, ⟨Tryd.underlying1⟩⟩, ⟨⟨Ty.size1⟩, by kernel_rfl⟩⟩
theorem ti2 : TI.ok Tryd.prog 2 ⟨.int .i64, 1⟩ := ⟨⟨Tryd.underlying2⟩, ⟨⟨Ty.size2⟩, by kernel_rfl⟩⟩
theorem ti3 : TI.ok Tryd.prog 3 ⟨.int .i64, 1⟩ := ⟨⟨Tryd.underlying3⟩, ⟨⟨Ty.size3⟩, by kernel_rfl⟩⟩
theorem ti4 : TI.ok Tryd.prog 4 ⟨.bool, 1⟩ := ⟨⟨Tryd.underlying4⟩, ⟨⟨Ty.size4⟩, by kernel_rfl⟩⟩
theorem ti5 : TI.ok Tryd.prog 5 ⟨.int .u8, 1⟩ := ⟨⟨Tryd.underlying5⟩, ⟨⟨Ty.size5⟩, by kernel_rfl⟩⟩
theorem ti9 : TI.ok Tryd.prog 9 ⟨.str, 1⟩ := ⟨⟨Tryd.underlying9⟩, ⟨⟨Ty.size9⟩, by kernel_rfl⟩⟩
theorem ti20 : TI.ok Tryd.prog 20 ⟨.ifc, 1⟩ := ⟨⟨_, Tryd.underlying20⟩, ⟨⟨Ty.size20⟩, by kernel_rfl⟩⟩
theorem ti21 : TI.ok Tryd.prog 21 ⟨.int .i32, 1⟩ := ⟨⟨Tryd.underlying21⟩, ⟨⟨Ty.size21⟩, by kernel_rfl⟩⟩
theorem ti22 : TI.ok Tryd.prog 22 ⟨.slc 5 1 true, 1⟩ := ⟨⟨⟨Tryd.underlying22⟩, ⟨⟨Ty.size22⟩, by kernel_rfl⟩⟩, ⟨Ty.size5⟩, (fun _ => ⟨Tryd.underlying5⟩), inferInstance⟩
theorem ti24 : TI.ok Tryd.prog 24 ⟨.slc 3 1 false, 1⟩ := ⟨⟨⟨Tryd.underlying24⟩, ⟨⟨Ty.size24⟩, by kernel_rfl⟩⟩, ⟨Ty.size3⟩, (fun h => Bool.noConfusion h), inferInstance⟩
theorem ti25 : TI.ok Tryd.prog 25 ⟨.slc 46 8 false, 1⟩ := ⟨⟨⟨Tryd.underlying25⟩, ⟨⟨Ty.size25⟩, by kernel_rfl⟩⟩, ⟨Ty.size46⟩, (fun h => Bool.noConfusion h), inferInstance⟩
theorem ti27 : TI.ok Tryd.prog 27 ⟨.struct [(0, 1, false), (1, 1, false), (2, 1, false), (3, 1, false), (4, 1, false), (5, 1, false), (6, 1, false), (7, 1, false), (8, 1, false), (9, 1, false)] [(.int .i64 0), .str [], .str [], .str [], (.int .i64 0), (.int .i64 0), (.int .i64 0), .nils, .nils, .str []], 10⟩ := ⟨⟨⟨_, Tryd.underlying27, rfl⟩, ⟨Ty.size27⟩⟩, ⟨⟨3, inferInstanceAs (TyF Tryd.prog 27 0 3 0 1 false)⟩, ⟨⟨9, inferInstanceAs (TyF Tryd.prog 27 1 9 1 1 false)⟩, ⟨⟨9, inferInstanceAs (TyF Tryd.prog 27 2 9 2 1 false)⟩, ⟨⟨9, inferInstanceAs (TyF Tryd.prog 27 3 9 3 1 false)⟩, ⟨⟨3, inferInstanceAs (TyF Tryd.prog 27 4 3 4 1 false)⟩, ⟨⟨3, inferInstanceAs (TyF Tryd.prog 27 5 3 5 1 false)⟩, ⟨⟨3, inferInstanceAs (TyF Tryd.prog 27 6 3 6 1 false)⟩, ⟨⟨24, inferInstanceAs (TyF Tryd.prog 27 7 24 7 1 false)⟩, ⟨⟨25, inferInstanceAs (TyF Tryd.prog 27 8 25 8 1 false)⟩, ⟨⟨9, inferInstanceAs (TyF Tryd.prog 27 9 9 9 1 false)⟩, trivial⟩⟩⟩⟩⟩⟩⟩⟩⟩⟩, by kernel_rfl, .struct Tryd.underlying27 Ty.zero27 rfl rfl rfl rfl⟩
theorem ti30 : TI.ok Tryd.prog 30 ⟨.slc 43 2 false, 1⟩ := ⟨⟨⟨Tryd.underlying30⟩, ⟨⟨Ty.size30⟩, by kernel_rfl⟩⟩, ⟨Ty.size43⟩, (fun h => Bool.noConfusion h), inferInstance⟩
theorem ti33 : TI.ok Tryd.prog 33 ⟨.int .u16, 1⟩ := ⟨⟨Tryd.underlying33⟩, ⟨⟨Ty.size33⟩, by kernel_rfl⟩⟩
theorem ti34 : TI.ok Tryd.prog 34 ⟨.int .u16, 1⟩ := ⟨⟨Tryd.underlying34⟩, ⟨⟨Ty.size34⟩, by kernel_rfl⟩⟩
theorem ti43 : TI.ok Tryd.prog 43 ⟨.struct [(0, 1, false), (1, 1, false)] [.str [], .nils], 2⟩ := ⟨⟨⟨_, Tryd.underlying43, rfl⟩, ⟨Ty.size43⟩⟩, ⟨⟨9, inferInstanceAs (TyF Tryd.prog 43 0 9 0 1 false)⟩, ⟨⟨22, inferInstanceAs (TyF Tryd.prog 43 1 22 1 1 false)⟩, trivial⟩⟩, by kernel_rfl, .struct Tryd.underlying43 Ty.zero43 rfl rfl rfl rfl⟩
theorem ti46 : TI.ok Tryd.prog 46 ⟨.struct [(0, 1, false), (1, 1, false), (2, 1, false), (3, 1, false), (4, 1, false), (5, 1, false), (6, 1, false), (7, 1, false)] [(.int .i64 0), .str [], .str [], (.int .i64 0), (.int .i64 0), (.bool false), .str [], (.int .i64 0)], 8⟩ := ⟨⟨⟨_, Tryd.underlying46, rfl⟩, ⟨Ty.size46⟩⟩, ⟨⟨3, inferInstanceAs (TyF Tryd.prog 46 0 3 0 1 false)⟩, ⟨⟨9, inferInstanceAs (TyF Tryd.prog 46 1 9 1 1 false)⟩, ⟨⟨9, inferInstanceAs (TyF Tryd.prog 46 2 9 2 1 false)⟩, ⟨⟨3, inferInstanceAs (TyF Tryd.prog 46 3 3 3 1 false)⟩, ⟨⟨3, inferInstanceAs (TyF Tryd.prog 46 4 3 4 1 false)⟩, ⟨⟨4, inferInstanceAs (TyF Tryd.prog 46 5 4 5 1 false)⟩, ⟨⟨9, inferInstanceAs (TyF Tryd.prog 46 6 9 6 1 false)⟩, ⟨⟨3, inferInstanceAs (TyF Tryd.prog 46 7 3 7 1 false)⟩, trivial⟩⟩⟩⟩⟩⟩⟩⟩, by kernel_rfl, .struct Tryd.underlying46 Ty.zero46 rfl rfl rfl rfl⟩
theorem ti48 : TI.ok Tryd.prog 48 ⟨.slc 33 1 false, 1⟩ := ⟨⟨⟨Tryd.underlying48⟩, ⟨⟨Ty.size48⟩, by kernel_rfl⟩⟩, ⟨Ty.size33⟩, (fun h => Bool.noConfusion h), inferInstance⟩
theorem ti51 : TI.ok Tryd.prog 51 ⟨.slc 5 1 true, 1⟩ := ⟨⟨⟨Tryd.underlying51⟩, ⟨⟨Ty.size51⟩, by kernel_rfl⟩⟩, ⟨Ty.size5⟩, (fun _ => ⟨Tryd.underlying5⟩), inferInstance⟩
theorem ti61 : TI.ok Tryd.prog 61 ⟨.ptr, 1⟩ := ⟨⟨_, ⟨Tryd.underlying61⟩⟩, ⟨⟨Ty.size61⟩, by kernel_rfl⟩⟩
theorem ti63 : TI.ok Tryd.prog 63 ⟨.struct [(0, 1, false), (1, 1, false)] [.nils, (.int .i64 0)], 2⟩ := ⟨⟨⟨_, Tryd.underlying63, rfl⟩, ⟨Ty.size63⟩⟩, ⟨⟨22, inferInstanceAs (TyF Tryd.prog 63 0 22 0 1 false)⟩, ⟨⟨3, inferInstanceAs (TyF Tryd.prog 63 1 3 1 1 false)⟩, trivial⟩⟩, by kernel_rfl, .struct Tryd.underlying63 Ty.zero63 rfl rfl rfl rfl⟩
theorem ti65 : TI.ok Tryd.prog 65 ⟨.ifc, 1⟩ := ⟨⟨_, Tryd.underlying65⟩, ⟨⟨Ty.size65⟩, by kernel_rfl⟩⟩
theorem ti67 : TI.ok Tryd.prog 67 ⟨.struct [(0, 2, true), (2, 1, false)] [.nils, (.int .i64 0), .nilifc], 3⟩ := ⟨⟨⟨_, Tryd.underlying67, rfl⟩, ⟨Ty.size67⟩⟩, ⟨⟨63, inferInstanceAs (TyF Tryd.prog 67 0 63 0 2 true)⟩, ⟨⟨65, inferInstanceAs (TyF Tryd.prog 67 1 65 2 1 false)⟩, trivial⟩⟩, by kernel_rfl, .struct Tryd.underlying67 Ty.zero67 rfl rfl rfl rfl⟩
theorem ti71 : TI.ok Tryd.prog 71 ⟨.fn, 1⟩ := ⟨⟨_, _, _, ⟨Tryd.underlying71⟩⟩, ⟨⟨Ty.size71⟩, by kernel_rfl⟩⟩
theorem ti79 : TI.ok Tryd.prog 79 ⟨.fn, 1⟩ := ⟨⟨_, _, _, ⟨Tryd.underlying79⟩⟩, ⟨⟨Ty.size79⟩, by kernel_rfl⟩⟩
theorem ti82 : TI.ok Tryd.prog 82 ⟨.ptr, 1⟩ := ⟨⟨_, ⟨Tryd.underlying82⟩⟩, ⟨⟨Ty.size82⟩, by kernel_rfl⟩⟩
theorem ti84 : TI.ok Tryd.prog 84 ⟨.struct [(0, 10, true), (10, 1, false), (11, 1, false)] [(.int .i64 0), .str [], .str [], .str [], (.int .i64 0), (.int .i64 0), (.int .i64 0), .nils, .nils, .str [], (.int .i64 0), .nilp], 12⟩ := ⟨⟨⟨_, Tryd.underlying84, rfl⟩, ⟨Ty.size84⟩⟩, ⟨⟨27, inferInstanceAs (TyF Tryd.prog 84 0 27 0 10 true)⟩, ⟨⟨3, inferInstanceAs (TyF Tryd.prog 84 1 3 10 1 false)⟩, ⟨⟨82, inferInstanceAs (TyF Tryd.prog 84 2 82 11 1 false)⟩, trivial⟩⟩⟩, by kernel_rfl, .struct Tryd.underlying84 Ty.zero84 rfl rfl rfl rfl⟩
theorem ti87 : TI.ok Tryd.prog 87 ⟨.struct [(0, 1, false), (1, 1, false), (2, 1, false)] [.nils, (.int .i64 0), (.bool false)], 3⟩ := ⟨⟨⟨_, Tryd.underlying87, rfl⟩, ⟨Ty.size87⟩⟩, ⟨⟨22, inferInstanceAs (TyF Tryd.prog 87 0 22 0 1 false)⟩, ⟨⟨3, inferInstanceAs (TyF Tryd.prog 87 1 3 1 1 false)⟩, ⟨⟨4, inferInstanceAs (TyF Tryd.prog 87 2 4 2 1 false)⟩, trivial⟩⟩⟩, by kernel_rfl, .struct Tryd.underlying87 Ty.zero87 rfl rfl rfl rfl⟩
theorem ti90 : TI.ok Tryd.prog 90 ⟨.fn, 1⟩ := ⟨⟨_, _, _, ⟨Tryd.underlying90⟩⟩, ⟨⟨Ty.size90⟩, by kernel_rfl⟩⟩
theorem ti91 : TI.ok Tryd.prog 91 ⟨.fn, 1⟩ := ⟨⟨_, _, _, ⟨Tryd.underlying91⟩⟩, ⟨⟨Ty.size91⟩, by kernel_rfl⟩⟩
theorem ti96 : TI.ok Tryd.prog 96 ⟨.fn, 1⟩ := ⟨⟨_, _, _, ⟨Tryd.underlying96⟩⟩, ⟨⟨Ty.size96⟩, by kernel_rfl⟩⟩
theorem ti98 : TI.ok Tryd.prog 98 ⟨.struct [(0, 1, false), (1, 1, false)] [(.int .u8 0), .nilfn], 2⟩ := ⟨⟨⟨_, Tryd.underlying98, rfl⟩, ⟨Ty.size98⟩⟩, ⟨⟨5, inferInstanceAs (TyF Tryd.prog 98 0 5 0 1 false)⟩, ⟨⟨96, inferInstanceAs (TyF Tryd.prog 98 1 96 1 1 false)⟩, trivial⟩⟩, by kernel_rfl, .struct Tryd.underlying98 Ty.zero98 rfl rfl rfl rfl⟩
theorem ti99 : TI.ok Tryd.prog 99 ⟨.arr 6 98 2 true [(.int .u8 0), .nilfn, (.int .u8 0), .nilfn, (.int .u8 0), .nilfn, (.int .u8 0), .nilfn, (.int .u8 0), .nilfn, (.int .u8 0), .nilfn], 12⟩ := ⟨⟨⟨Tryd.underlying99⟩, ⟨Ty.size99⟩⟩, ⟨Ty.size98⟩, ⟨_, Tryd.underlying98, rfl⟩, by kernel_rfl, .array Tryd.underlying99 Ty.zero99 rfl Ty.size98 rfl⟩
theorem ti101 : TI.ok Tryd.prog 101 ⟨.ptr, 1⟩ := ⟨⟨_, ⟨Tryd.underlying101⟩⟩, ⟨⟨Ty.size101⟩, by kernel_rfl⟩⟩
theorem ti102 : TI.ok Tryd.prog 102 ⟨.ptr, 1⟩ := ⟨⟨_, ⟨Tryd.underlying102⟩⟩, ⟨⟨Ty.size102⟩, by kernel_rfl⟩⟩
theorem ti104 : TI.ok Tryd.prog 104 ⟨.ptr, 1⟩ := ⟨⟨_, ⟨Tryd.underlying104⟩⟩, ⟨⟨Ty.size104⟩, by kernel_rfl⟩⟩
theorem ti106 : TI.ok Tryd.prog 106 ⟨.struct [(0, 1, false), (1, 1, false), (2, 1, false)] [.nils, (.int .i64 0), (.bool false)], 3⟩ := ⟨⟨⟨_, Tryd.underlying106, rfl⟩, ⟨Ty.size106⟩⟩, ⟨⟨22, inferInstanceAs (TyF Tryd.prog 106 0 22 0 1 false)⟩, ⟨⟨3, inferInstanceAs (TyF Tryd.prog 106 1 3 1 1 false)⟩, ⟨⟨4, inferInstanceAs (TyF Tryd.prog 106 2 4 2 1 false)⟩, trivial⟩⟩⟩, by kernel_rfl, .struct Tryd.underlying106 Ty.zero106 rfl rfl rfl rfl⟩
theorem ti109 : TI.ok Tryd.prog 109 ⟨.slc 9 1 false, 1⟩ := ⟨⟨⟨Tryd.underlying109⟩, ⟨⟨Ty.size109⟩, by kernel_rfl⟩⟩, ⟨Ty.size9⟩, (fun h => Bool.noConfusion h), inferInstance⟩
theorem ti113 : TI.ok Tryd.prog 113 ⟨.arr 3 9 1 false [.str [], .str [], .str []], 3⟩ := ⟨⟨⟨Tryd.underlying113⟩, ⟨Ty.size113⟩⟩, ⟨Ty.size9⟩, ⟨_, Tryd.underlying9, rfl⟩, by kernel_rfl, .array Tryd.underlying113 Ty.zero113 rfl Ty.size9 rfl⟩
theorem ti117 : TI.ok Tryd.prog 117 ⟨.ptr, 1⟩ := ⟨⟨_, ⟨Tryd.underlying117⟩⟩, ⟨⟨Ty.size117⟩, by kernel_rfl⟩⟩
theorem ti118 : TI.ok Tryd.prog 118 ⟨.fn, 1⟩ := ⟨⟨_, _, _, ⟨Tryd.underlying118⟩⟩, ⟨⟨Ty.size118⟩, by kernel_rfl⟩⟩
theorem ti124 : TI.ok Tryd.prog 124 ⟨.fn, 1⟩ := ⟨⟨_, _, _, ⟨Tryd.underlying124⟩⟩, ⟨⟨Ty.size124⟩, by kernel_rfl⟩⟩
theorem ti127 : TI.ok Tryd.prog 127 ⟨.fn, 1⟩ := ⟨⟨_, _, _, ⟨Tryd.underlying127⟩⟩, ⟨⟨Ty.size127⟩, by kernel_rfl⟩⟩
theorem ti128 : TI.ok Tryd.prog 128 ⟨.slc 20 1 false, 1⟩ := ⟨⟨⟨Tryd.underlying128⟩, ⟨⟨Ty.size128⟩, by kernel_rfl⟩⟩, ⟨Ty.size20⟩, (fun h => Bool.noConfusion h), inferInstance⟩
theorem ti134 : TI.ok Tryd.prog 134 ⟨.fn, 1⟩ := ⟨⟨_, _, _, ⟨Tryd.underlying134⟩⟩, ⟨⟨Ty.size134⟩, by kernel_rfl⟩⟩
theorem ti136 : TI.ok Tryd.prog 136 ⟨.int .u64, 1⟩ := ⟨⟨Tryd.underlying136⟩, ⟨⟨Ty.size136⟩, by kernel_rfl⟩⟩
theorem ti140 : TI.ok Tryd.prog 140 ⟨.struct [(0, 1, false)] [(.int .u16 0)], 1⟩ := ⟨⟨⟨_, Tryd.underlying140, rfl⟩, ⟨Ty.size140⟩⟩, ⟨⟨34, inferInstanceAs (TyF Tryd.prog 140 0 34 0 1 false)⟩, trivial⟩, by kernel_rfl, .struct Tryd.underlying140 Ty.zero140 rfl rfl rfl rfl⟩
theorem ti141 : TI.ok Tryd.prog 141 ⟨.int .i64, 1⟩ := ⟨⟨Tryd.underlying141⟩, ⟨⟨Ty.size141⟩, by kernel_rfl⟩⟩
theorem ti144 : TI.ok Tryd.prog 144 ⟨.ptr, 1⟩ := ⟨⟨_, ⟨Tryd.underlying144⟩⟩, ⟨⟨Ty.size144⟩, by kernel_rfl⟩⟩
theorem ti150 : TI.ok Tryd.prog 150 ⟨.ptr, 1⟩ := ⟨⟨_, ⟨Tryd.underlying150⟩⟩, ⟨⟨Ty.size150⟩, by kernel_rfl⟩⟩
theorem ti152 : TI.ok Tryd.prog 152 ⟨.struct [(0, 1, false), (1, 1, false)] [.nilp, .nils], 2⟩ := ⟨⟨⟨_, Tryd.underlying152, rfl⟩, ⟨Ty.size152⟩⟩, ⟨⟨150, inferInstanceAs (TyF Tryd.prog 152 0 150 0 1 false)⟩, ⟨⟨22, inferInstanceAs (TyF Tryd.prog 152 1 22 1 1 false)⟩, trivial⟩⟩, by kernel_rfl, .struct Tryd.underlying152 (show (Tryd.prog.info? 152).bind (·.zero) = some (.agg #[(.pointer none), (.slice none 0 0)]) by kernel_rfl) rfl rfl rfl rfl⟩
theorem ti155 : TI.ok Tryd.prog 155 ⟨.int .u64, 1⟩ := ⟨⟨Tryd.underlying155⟩, ⟨⟨Ty.size155⟩, by kernel_rfl⟩⟩
theorem ti160 : TI.ok Tryd.prog 160 ⟨.struct [(0, 1, false), (1, 1, false), (2, 1, false)] [.str [], .str [], .nilifc], 3⟩ := ⟨⟨⟨_, Tryd.underlying160, rfl⟩, ⟨Ty.size160⟩⟩, ⟨⟨9, inferInstanceAs (TyF Tryd.prog 160 0 9 0 1 false)⟩, ⟨⟨9, inferInstanceAs (TyF Tryd.prog 160 1 9 1 1 false)⟩, ⟨⟨65, inferInstanceAs (TyF Tryd.prog 160 2 65 2 1 false)⟩, trivial⟩⟩⟩, by kernel_rfl, .struct Tryd.underlying160 Ty.zero160 rfl rfl rfl rfl⟩
theorem ti163 : TI.ok Tryd.prog 163 ⟨.int .u32, 1⟩ := ⟨⟨Tryd.underlying163⟩, ⟨⟨Ty.size163⟩, by kernel_rfl⟩⟩
theorem ti168 : TI.ok Tryd.prog 168 ⟨.ptr, 1⟩ := ⟨⟨_, ⟨Tryd.underlying168⟩⟩, ⟨⟨Ty.size168⟩, by kernel_rfl⟩⟩
theorem ti171 : TI.ok Tryd.prog 171 ⟨.ptr, 1⟩ := ⟨⟨_, ⟨Tryd.underlying171⟩⟩, ⟨⟨Ty.size171⟩, by kernel_rfl⟩⟩
theorem ti173 : TI.ok Tryd.prog 173 ⟨.struct [(0, 1, false)] [.str []], 1⟩ := ⟨⟨⟨_, Tryd.underlying173, rfl⟩, ⟨Ty.size173⟩⟩, ⟨⟨9, inferInstanceAs (TyF Tryd.prog 173 0 9 0 1 false)⟩, trivial⟩, by kernel_rfl, .struct Tryd.underlying173 Ty.zero173 rfl rfl rfl rfl⟩
theorem ti174 : TI.ok Tryd.prog 174 ⟨.arr 24 5 1 false [(.int .u8 0), (.int .u8 0), (.int .u8 0), (.int .u8 0), (.int .u8 0), (.int .u8 0), (.int .u8 0), (.int .u8 0), (.int .u8 0), (.int .u8 0), (.int .u8 0), (.int .u8 0), (.int .u8 0), (.int .u8 0), (.int .u8 0), (.int .u8 0), (.int .u8 0), (.int .u8 0), (.int .u8 0), (.int .u8 0), (.int .u8 0), (.int .u8 0), (.int .u8 0), (.int .u8 0)], 24⟩ := ⟨⟨⟨Tryd.underlying174⟩, ⟨Ty.size174⟩⟩, ⟨Ty.size5⟩, ⟨_, Tryd.underlying5, rfl⟩, by kernel_rfl, .array Tryd.underlying174 Ty.zero174 rfl Ty.size5 rfl⟩
theorem ti181 : TI.ok Tryd.prog 181 ⟨.arr 20 155 1 false [(.int .u64 0), (.int .u64 0), (.int .u64 0), (.int .u64 0), (.int .u64 0), (.int .u64 0), (.int .u64 0), (.int .u64 0), (.int .u64 0), (.int .u64 0), (.int .u64 0), (.int .u64 0), (.int .u64 0), (.int .u64 0), (.int .u64 0), (.int .u64 0), (.int .u64 0), (.int .u64 0), (.int .u64 0), (.int .u64 0)], 20⟩ := ⟨⟨⟨Tryd.underlying181⟩, ⟨Ty.size181⟩⟩, ⟨Ty.size155⟩, ⟨_, Tryd.underlying155, rfl⟩, by kernel_rfl, .array Tryd.underlying181 Ty.zero181 rfl Ty.size155 rfl⟩
theorem ti182 : TI.ok Tryd.prog 182 ⟨.arr 65 5 1 false [(.int .u8 0), (.int .u8 0), (.int .u8 0), (.int .u8 0), (.int .u8 0), (.int .u8 0), (.int .u8 0), (.int .u8 0), (.int .u8 0), (.int .u8 0), (.int .u8 0), (.int .u8 0), (.int .u8 0), (.int .u8 0), (.int .u8 0), (.int .u8 0), (.int .u8 0), (.int .u8 0), (.int .u8 0), (.int .u8 0), (.int .u8 0), (.int .u8 0), (.int .u8 0), (.int .u8 0), (.int .u8 0), (.int .u8 0), (.int .u8 0), (.int .u8 0), (.int .u8 0), (.int .u8 0), (.int .u8 0), (.int .u8 0), (.int .u8 0), (.int .u8 0), (.int .u8 0), (.int .u8 0), (.int .u8 0), (.int .u8 0), (.int .u8 0), (.int .u8 0), (.int .u8 0), (.int .u8 0), (.int .u8 0), (.int .u8 0), (.int .u8 0), (.int .u8 0), (.int .u8 0), (.int .u8 0), (.int .u8 0), (.int .u8 0), (.int .u8 0), (.int .u8 0), (.int .u8 0), (.int .u8 0), (.int .u8 0), (.int .u8 0), (.int .u8 0), (.int .u8 0), (.int .u8 0), (.int .u8 0), (.int .u8 0), (.int .u8 0), (.int .u8 0), (.int .u8 0), (.int .u8 0)], 65⟩ := ⟨⟨⟨Tryd.underlying182⟩, ⟨Ty.size182⟩⟩, ⟨Ty.size5⟩, ⟨_, Tryd.underlying5, rfl⟩, by kernel_rfl, .array Tryd.underlying182 Ty.zero182 rfl Ty.size5 rfl⟩
theorem ti186 : TI.ok Tryd.prog 186 ⟨.arr 32 5 1 false [(.int .u8 0), (.int .u8 0), (.int .u8 0), (.int .u8 0), (.int .u8 0), (.int .u8 0), (.int .u8 0), (.int .u8 0), (.int .u8 0), (.int .u8 0), (.int .u8 0), (.int .u8 0), (.int .u8 0), (.int .u8 0), (.int .u8 0), (.int .u8 0), (.int .u8 0), (.int .u8 0), (.int .u8 0), (.int .u8 0), (.int .u8 0), (.int .u8 0), (.int .u8 0), (.int .u8 0), (.int .u8 0), (.int .u8 0), (.int .u8 0), (.int .u8 0), (.int .u8 0), (.int .u8 0), (.int .u8 0), (.int .u8 0)], 32⟩ := ⟨⟨⟨Tryd.underlying186⟩, ⟨Ty.size186⟩⟩, ⟨Ty.size5⟩, ⟨_, Tryd.underlying5, rfl⟩, by kernel_rfl, .array Tryd.underlying186 Ty.zero186 rfl Ty.size5 rfl⟩
theorem ti187 : TI.ok Tryd.prog 187 ⟨.arr 64 5 1 false [(.int .u8 0), (.int .u8 0), (.int .u8 0), (.int .u8 0), (.int .u8 0), (.int .u8 0), (.int .u8 0), (.int .u8 0), (.int .u8 0), (.int .u8 0), (.int .u8 0), (.int .u8 0), (.int .u8 0), (.int .u8 0), (.int .u8 0), (.int .u8 0), (.int .u8 0), (.int .u8 0), (.int .u8 0), (.int .u8 0), (.int .u8 0), (.int .u8 0), (.int .u8 0), (.int .u8 0), (.int .u8 0), (.int .u8 0), (.int .u8 0), (.int .u8 0), (.int .u8 0), (.int .u8 0), (.int .u8 0), (.int .u8 0), (.int .u8 0), (.int .u8 0), (.int .u8 0), (.int .u8 0), (.int .u8 0), (.int .u8 0), (.int .u8 0), (.int .u8 0), (.int .u8 0), (.int .u8 0), (.int .u8 0), (.int .u8 0), (.int .u8 0), (.int .u8 0), (.int .u8 0), (.int .u8 0), (.int .u8 0), (.int .u8 0), (.int .u8 0), (.int .u8 0), (.int .u8 0), (.int .u8 0), (.int .u8 0), (.int .u8 0), (.int .u8 0), (.int .u8 0), (.int .u8 0), (.int .u8 0), (.int .u8 0), (.int .u8 0), (.int .u8 0), (.int .u8 0)], 64⟩ := ⟨⟨⟨Tryd.underlying187⟩, ⟨Ty.size187⟩⟩, ⟨Ty.size5⟩, ⟨_, Tryd.underlying5, rfl⟩, by kernel_rfl, .array Tryd.underlying187 Ty.zero187 rfl Ty.size5 rfl⟩
def tt : TT := (.node (.node (.node (.node (.node (.node .leaf 1 ⟨.fn, 1⟩ .leaf) 2 ⟨.int .i64, 1⟩ (.node .leaf 3 ⟨.int .i64, 1⟩ .leaf)) 4 ⟨.bool, 1⟩ (.node (.node .leaf 5 ⟨.int .u8, 1⟩ .leaf) 9 ⟨.str, 1⟩ (.node .leaf 20 ⟨.ifc, 1⟩ .leaf))) 21 ⟨.int .i32, 1⟩ (.node (.node (.node .leaf 22 ⟨.slc 5 1 true, 1⟩ .leaf) 24 ⟨.slc 3 1 false, 1⟩ (.node .leaf 25 ⟨.slc 46 8 false, 1⟩ .leaf)) 27 ⟨.struct [(0, 1, false), (1, 1, false), (2, 1, false), (3, 1, false), (4, 1, false), (5, 1, false), (6, 1, false), (7, 1, false), (8, 1, false), (9, 1, false)] [(.int .i64 0), .str [], .str [], .str [], (.int .i64 0), (.int .i64 0), (.int .i64 0), .nils, .nils, .str []], 10⟩ (.node (.node .leaf 30 ⟨.slc 43 2 false, 1⟩ .leaf) 33 ⟨.int .u16, 1⟩ (.node .leaf 34 ⟨.int .u16, 1⟩ .leaf)))) 43 ⟨.struct [(0, 1, false), (1, 1, false)] [.str [], .nils], 2⟩ (.node (.node (.node (.node .leaf 46 ⟨.struct [(0, 1, false), (1, 1, false), (2, 1, false), (3, 1, false), (4, 1, false), (5, 1, false), (6, 1, false), (7, 1, false)] [(.int .i64 0), .str [], .str [], (.int .i64 0), (.int .i64 0), (.bool false), .str [], (.int .i64 0)], 8⟩ .leaf) 48 ⟨.slc 33 1 false, 1⟩ (.node .leaf 51 ⟨.slc 5 1 true, 1⟩ .leaf)) 61 ⟨.ptr, 1⟩ (.node (.node .leaf 63 ⟨.struct [(0, 1, false), (1, 1, false)] [.nils, (.int .i64 0)], 2⟩ .leaf) 65 ⟨.ifc, 1⟩ (.node .leaf 67 ⟨.struct [(0, 2, true), (2, 1, false)] [.nils, (.int .i64 0), .nilifc], 3⟩ .leaf))) 71 ⟨.fn, 1⟩ (.node (.node (.node .leaf 79 ⟨.fn, 1⟩ .leaf) 82 ⟨.ptr, 1⟩ (.node .leaf 84 ⟨.struct [(0, 10, true), (10, 1, false), (11, 1, false)] [(.int .i64 0), .str [], .str [], .str [], (.int .i64 0), (.int .i64 0), (.int .i64 0), .nils, .nils, .str [], (.int .i64 0), .nilp], 12⟩ .leaf)) 87 ⟨.struct [(0, 1, false), (1, 1, false), (2, 1, false)] [.nils, (.int .i64 0), (.bool false)], 3⟩ (.node (.node .leaf 90 ⟨.fn, 1⟩ .leaf) 91 ⟨.fn, 1⟩ (.node .leaf 96 ⟨.fn, 1⟩ .leaf))))) 98 ⟨.struct [(0, 1, false), (1, 1, false)] [(.int .u8 0), .nilfn], 2⟩ (.node (.node (.node (.node (.node .leaf 99 ⟨.arr 6 98 2 true [(.int .u8 0), .nilfn, (.int .u8 0), .nilfn, (.int .u8 0), .nilfn, (.int .u8 0), .nilfn, (.int .u8 0), .nilfn, (.int .u8 0), .nilfn], 12⟩ .leaf) 101 ⟨.ptr, 1⟩ (.node .leaf 102 ⟨.ptr, 1⟩ .leaf)) 104 ⟨.ptr, 1⟩ (.node (.node .leaf 106 ⟨.struct [(0, 1, false), (1, 1, false), (2, 1, false)] [.nils, (.int .i64 0), (.bool false)], 3⟩ .leaf) 109 ⟨.slc 9 1 false, 1⟩ (.node .leaf 113 ⟨.arr 3 9 1 false [.str [], .str [], .str []], 3⟩ .leaf))) 117 ⟨.ptr, 1⟩ (.node (.node (.node .leaf 118 ⟨.fn, 1⟩ .leaf) 124 ⟨.fn, 1⟩ (.node .leaf 127 ⟨.fn, 1⟩ .leaf)) 128 ⟨.slc 20 1 false, 1⟩ (.node (.node .leaf 134 ⟨.fn, 1⟩ .leaf) 136 ⟨.int .u64, 1⟩ (.node .leaf 140 ⟨.struct [(0, 1, false)] [(.int .u16 0)], 1⟩ .leaf)))) 141 ⟨.int .i64, 1⟩ (.node (.node (.node (.node .leaf 144 ⟨.ptr, 1⟩ .leaf) 150 ⟨.ptr, 1⟩ (.node .leaf 152 ⟨.struct [(0, 1, false), (1, 1, false)] [.nilp, .nils], 2⟩ .leaf)) 155 ⟨.int .u64, 1⟩ (.node (.node .leaf 160 ⟨.struct [(0, 1, false), (1, 1, false), (2, 1, false)] [.str [], .str [], .nilifc], 3⟩ .leaf) 163 ⟨.int .u32, 1⟩ (.node .leaf 168 ⟨.ptr, 1⟩ .leaf))) 171 ⟨.ptr, 1⟩ (.node (.node (.node .leaf 173 ⟨.struct [(0, 1, false)] [.str []], 1⟩ .leaf) 174 ⟨.arr 24 5 1 false [(.int .u8 0), (.int .u8 0), (.int .u8 0), (.int .u8 0), (.int .u8 0), (.int .u8 0), (.int .u8 0), (.int .u8 0), (.int .u8 0), (.int .u8 0), (.int .u8 0), (.int .u8 0), (.int .u8 0), (.int .u8 0), (.int .u8 0), (.int .u8 0), (.int .u8 0), (.int .u8 0), (.int .u8 0), (.int .u8 0), (.int .u8 0), (.int .u8 0), (.int .u8 0), (.int .u8 0)], 24⟩ (.node .leaf 181 ⟨.arr 20 155 1 false [(.int .u64 0), (.int .u64 0), (.int .u64 0), (.int .u64 0), (.int .u64 0), (.int .u64 0), (.int .u64 0), (.int .u64 0), (.int .u64 0), (.int .u64 0), (.int .u64 0), (.int .u64 0), (.int .u64 0), (.int .u64 0), (.int .u64 0), (.int .u64 0), (.int .u64 0), (.int .u64 0), (.int .u64 0), (.int .u64 0)], 20⟩ .leaf)) 182 ⟨.arr 65 5 1 false [(.int .u8 0), (.int .u8 0), (.int .u8 0), (.int .u8 0), (.int .u8 0), (.int .u8 0), (.int .u8 0), (.int .u8 0), (.int .u8 0), (.int .u8 0), (.int .u8 0), (.int .u8 0), (.int .u8 0), (.int .u8 0), (.int .u8 0), (.int .u8 0), (.int .u8 0), (.int .u8 0), (.int .u8 0), (.int .u8 0), (.int .u8 0), (.int .u8 0), (.int .u8 0), (.int .u8 0), (.int .u8 0), (.int .u8 0), (.int .u8 0), (.int .u8 0), (.int .u8 0), (.int .u8 0), (.int .u8 0), (.int .u8 0), (.int .u8 0), (.int .u8 0), (.int .u8 0), (.int .u8 0), (.int .u8 0), (.int .u8 0), (.int .u8 0), (.int .u8 0), (.int .u8 0), (.int .u8 0), (.int .u8 0), (.int .u8 0), (.int .u8 0), (.int .u8 0), (.int .u8 0), (.int .u8 0), (.int .u8 0), (.int .u8 0), (.int .u8 0), (.int .u8 0), (.int .u8 0), (.int .u8 0), (.int .u8 0), (.int .u8 0), (.int .u8 0), (.int .u8 0), (.int .u8 0), (.int .u8 0), (.int .u8 0), (.int .u8 0), (.int .u8 0), (.int .u8 0), (.int .u8 0)], 65⟩ (.node (.node .leaf 186 ⟨.arr 32 5 1 false [(.int .u8 0), (.int .u8 0), (.int .u8 0), (.int .u8 0), (.int .u8 0), (.int .u8 0), (.int .u8 0), (.int .u8 0), (.int .u8 0), (.int .u8 0), (.int .u8 0), (.int .u8 0), (.int .u8 0), (.int .u8 0), (.int .u8 0), (.int .u8 0), (.int .u8 0), (.int .u8 0), (.int .u8 0), (.int .u8 0), (.int .u8 0), (.int .u8 0), (.int .u8 0), (.int .u8 0), (.int .u8 0), (.int .u8 0), (.int .u8 0), (.int .u8 0), (.int .u8 0), (.int .u8 0), (.int .u8 0), (.int .u8 0)], 32⟩ .leaf) 187 ⟨.arr 64 5 1 false [(.int .u8 0), (.int .u8 0), (.int .u8 0), (.int .u8 0), (.int .u8 0), (.int .u8 0), (.int .u8 0), (.int .u8 0), (.int .u8 0), (.int .u8 0), (.int .u8 0), (.int .u8 0), (.int .u8 0), (.int .u8 0), (.int .u8 0), (.int .u8 0), (.int .u8 0), (.int .u8 0), (.int .u8 0), (.int .u8 0), (.int .u8 0), (.int .u8 0), (.int .u8 0), (.int .u8 0), (.int .u8 0), (.int .u8 0), (.int .u8 0), (.int .u8 0), (.int .u8 0), (.int .u8 0), (.int .u8 0), (.int .u8 0), (.int .u8 0), (.int .u8 0), (.int .u8 0), (.int .u8 0), (.int .u8 0), (.int .u8 0), (.int .u8 0), (.int .u8 0), (.int .u8 0), (.int .u8 0), (.int .u8 0), (.int .u8 0), (.int .u8 0), (.int .u8 0), (.int .u8 0), (.int .u8 0), (.int .u8 0), (.int .u8 0), (.int .u8 0), (.int .u8 0), (.int .u8 0), (.int .u8 0), (.int .u8 0), (.int .u8 0), (.int .u8 0), (.int .u8 0), (.int .u8 0), (.int .u8 0), (.int .u8 0), (.int .u8 0), (.int .u8 0), (.int .u8 0)], 64⟩ .leaf)))))
theorem tok : tt.ok Tryd.prog := ⟨⟨⟨⟨⟨⟨trivial, ti1, trivial⟩, ti2, ⟨trivial, ti3, trivial⟩⟩, ti4, ⟨⟨trivial, ti5, trivial⟩, ti9, ⟨trivial, ti20, trivial⟩⟩⟩, ti21, ⟨⟨⟨trivial, ti22, trivial⟩, ti24, ⟨trivial, ti25, trivial⟩⟩, ti27, ⟨⟨trivial, ti30, trivial⟩, ti33, ⟨trivial, ti34, trivial⟩⟩⟩⟩, ti43, ⟨⟨⟨⟨trivial, ti46, trivial⟩, ti48, ⟨trivial, ti51, trivial⟩⟩, ti61, ⟨⟨trivial, ti63, trivial⟩, ti65, ⟨trivial, ti67, trivial⟩⟩⟩, ti71, ⟨⟨⟨trivial, ti79, trivial⟩, ti82, ⟨trivial, ti84, trivial⟩⟩, ti87, ⟨⟨trivial, ti90, trivial⟩, ti91, ⟨trivial, ti96, trivial⟩⟩⟩⟩⟩, ti98, ⟨⟨⟨⟨⟨trivial, ti99, trivial⟩, ti101, ⟨trivial, ti102, trivial⟩⟩, ti104, ⟨⟨trivial, ti106, trivial⟩, ti109, ⟨trivial, ti113, trivial⟩⟩⟩, ti117, ⟨⟨⟨trivial, ti118, trivial⟩, ti124, ⟨trivial, ti127, trivial⟩⟩, ti128, ⟨⟨trivial, ti134, trivial⟩, ti136, ⟨trivial, ti140, trivial⟩⟩⟩⟩, ti141, ⟨⟨⟨⟨trivial, ti144, trivial⟩, ti150, ⟨trivial, ti152, trivial⟩⟩, ti155, ⟨⟨trivial, ti160, trivial⟩, ti163, ⟨trivial, ti168, trivial⟩⟩⟩, ti171, ⟨⟨⟨trivial, ti173, trivial⟩, ti174, ⟨trivial, ti181, trivial⟩⟩, ti182, ⟨⟨trivial, ti186, trivial⟩, ti187, trivial⟩⟩⟩⟩⟩
end Go.Proofs.YtkbmkhhcppfcnaaDoor.Ty
end
section
set_option linter.unusedVariables false
namespace Go.Proofs.YtkbmkhhcppfcnaaDoor
open Go.Al
inductive Fm where
  | s (l : List UInt8)
  | n (k : Int)
def eFm : Fm → AV
  | .s l => .ifc 9 (.str l)
  | .n k => .ifc 3 (.int .i64 k)
def f1 : Fm → List UInt8
  | .s l => txt l
  | .n k => num k
def fB : List Fm → List UInt8
  | [] => []
  | [x] => f1 x
  | x :: y :: l => f1 x ++ fB (y :: l)
theorem fB_eq : ∀ l : List Fm, fB l = l.flatMap f1
  | [] => rfl
  | [x] => by simp [fB]
  | x :: y :: l => by rw [fB, fB_eq (y :: l)]; rfl
def FmOk (l : List Fm) : Prop := l.length ≤ 1000 ∧ ∀ x ∈ l, (f1 x).length ≤ 2000
theorem f1_len_s {s : List UInt8} (h : s.length ≤ 1000) : (f1 (.s s)).length ≤ 2000 := by
  have := num_len s.length
  simp [f1, txt]; omega
theorem f1_len_n (k : Int) : (f1 (.n k)).length ≤ 2000 := by
  have := num_len k
  simp only [f1]; omega
def FmS : List Fm → Prop
  | [] => True
  | .s v :: l => v.length ≤ 1000 ∧ FmS l
  | .n _ :: l => FmS l
theorem FmS.ok : ∀ {l : List Fm}, FmS l → ∀ x ∈ l, (f1 x).length ≤ 2000
  | [], _, x, hx => by simp at hx
  | .s v :: l, h, x, hx => by
    rcases List.mem_cons.1 hx with rfl | hx
    · exact f1_len_s h.1
    · exact FmS.ok h.2 x hx
  | .n k :: l, h, x, hx => by
    rcases List.mem_cons.1 hx with rfl | hx
    · exact f1_len_n k
    · exact FmS.ok (l := l) h x hx
theorem fB_len : ∀ {l : List Fm}, (∀ x ∈ l, (f1 x).length ≤ 2000) → (fB l).length ≤ 2000 * l.length
  | [], _ => by simp [fB]
  | x :: l, h => by
    have h1 := h x (by simp)
    have h2 := fB_len (l := l) fun y hy => h y (by simp [hy])
    rw [fB_eq] at h2 ⊢
    simp only [List.flatMap_cons, List.length_append, List.length_cons] at h2 ⊢
    omega
theorem num_pos (k : Int) : ∃ c r, num k = c :: r := by
  have : num k ≠ [] := by
    unfold num
    by_cases h : clampN k < 128
    · rw [numB_small h]; simp
    · rw [numB_big h]; simp
  cases h : num k with
  | nil => exact absurd h this
  | cons c r => exact ⟨c, r, rfl⟩
theorem f1_pos (x : Fm) : ∃ c r, f1 x = c :: r := by
  cases x with
  | s l => obtain ⟨c, r, h⟩ := num_pos l.length; exact ⟨c, r ++ l, by simp [f1, txt, h]⟩
  | n k => exact num_pos k
theorem fB_pos {x : Fm} {l : List Fm} : ∃ c r, fB (x :: l) = c :: r := by
  obtain ⟨c, r, h⟩ := f1_pos x
  exact ⟨c, r ++ fB l, by rw [fB_eq, fB_eq]; simp [h]⟩
end Go.Proofs.YtkbmkhhcppfcnaaDoor
end
section
set_option linter.unusedVariables false
set_option linter.unusedSimpArgs false
set_option maxRecDepth 100000
set_option maxHeartbeats 1000000
namespace Go.Proofs.YtkbmkhhcppfcnaaDoor
open Go.Al Go.RowKit
theorem flag2_any (w0 : World) (b : Bool) : CallP Tryd.prog w0 75 [.bool b] (.int .i64 (if b = true then 1 else 0)) := by
  refine CallP.x Ty.tok Ty.mixed Tryd.func75 rfl Tryd.ntmps75 rfl (by simp) (by decide +kernel) fun σ => ?_
  (conv => whnf)
  (refine SIf.x Ty.mixed (fun hc => ?_) (fun hc => ?_) <;> (conv => whnf))
  rotate_left; rotate_left
  all_goals exact .p (.refl _) (by simp [hc])
theorem deaths2_any (w0 : World) : CallP Tryd.prog w0 111 [] (.slc 1 [.str [], .str [110, 97, 99, 107], .str [116, 105, 109, 101]] .full) := by
  refine CallP.x Ty.tok Ty.mixed Tryd.func111 rfl Tryd.ntmps111 rfl (by simp) (by decide +kernel) fun σ => ?_
  (conv => whnf)
  skip
  exact .p (.refl _) rfl
theorem bytesEqX_any (w0 : World) (a b : List UInt8) (ta tb : Tok) : CallP Tryd.prog w0 109 [.slc 1 (aBytes a) ta, .slc 1 (aBytes b) tb] (.bool (decide (a = b))) := by
  refine CallP.x Ty.tok Ty.mixed Tryd.func109 rfl Tryd.ntmps109 rfl (by simp) (by decide +kernel) fun σ => ?_
  (conv => whnf); refine ⟨_, toBytes_aBytes _, ?_⟩; (conv => whnf); refine ⟨_, toBytes_aBytes _, ?_⟩; (conv => whnf); exact .p (.refl _) rfl
theorem same2_any (w0 : World) (x y : Row) : CallP Tryd.prog w0 81 [eRow x, eRow y] (.bool (decide (x = y))) := by
  refine CallP.x Ty.tok Ty.mixed Tryd.func81 rfl Tryd.ntmps81 rfl (by simp) (by decide +kernel) fun σ => ?_
  (conv => whnf); refine SBox.f ?_; (conv => whnf); refine SBox.f ?_; (conv => whnf)
  (refine SCond.mk (fun hc => ?_) (fun hc => ?_) <;> (conv => whnf))
  refine SCond.y (by assumption) ?_; (conv => whnf); refine SCond.y (by assumption) ?_; (conv => whnf); refine SCond.y (by assumption) ?_; (conv => whnf); refine SCond.y (by assumption) ?_; (conv => whnf); refine SCall.p (by exact bytesEqX_any w0 _ _ _ _) ?_; (conv => whnf); refine SPick.y (by assumption) ?_; (conv => whnf); rotate_left; refine SCond.n (by assumption) ?_; (conv => whnf)
  refine SCond.n (by assumption) ?_; (conv => whnf); refine SCond.n (by assumption) ?_; (conv => whnf); refine SCond.n (by assumption) ?_; (conv => whnf); refine SPick.n (by assumption) ?_; (conv => whnf); rotate_left
  · refine .p (.refl _) ?_
    have h1 : x.key = y.key := by simpa using hc
    have : (x.val = y.val) ↔ x = y := ⟨fun h => row_ext h1 h, fun h => by rw [h]⟩
    simp only [this]
  · refine .p (.refl _) ?_
    have : ¬ x = y := fun e => by subst e; simp at *
    simp [this]
theorem death2_any (w0 : World) (m : Msg) : CallP Tryd.prog w0 77 [eMsg m] (.int .i64 (deathN m)) := by
  refine CallP.x Ty.tok Ty.mixed Tryd.func77 rfl Tryd.ntmps77 rfl (by simp) (by decide +kernel) fun σ => ?_
  (conv => whnf); refine SBox.f ?_; (conv => whnf)
  (refine SIf.x Ty.mixed (fun hc => ?_) (fun hc => ?_) <;> (conv => whnf))
  rotate_left; refine SReg.t 0 [] (by decide +kernel) ?_; (conv => whnf); refine SCall.p (by exact deaths2_any w0) ?_; (conv => whnf)
  refine ⟨_, ⟨by first | omega | (simp only [List.length_cons, List.length_append, List.length_nil, List.length_map, length_aBytes, List.length_replicate, List.length_range]; omega) | fail, by rfl⟩, ?_⟩
  (conv => whnf)
  (refine SIf.x Ty.mixed (fun hc => ?_) (fun hc => ?_) <;> (conv => whnf))
  rotate_left; rotate_left
  all_goals refine .p (.refl _) ?_
  all_goals simp_all [deathN]
theorem form2_room (w0 : World) (l : List Fm) (hl : FmOk l) (σ : St) : CallW Tryd.prog w0 73 [.slc 1 (l.map eFm) .no] σ (fun r s => ∃ tk', r = .slc 1 (aBytes (fB l)) tk' ∧ Moves σ .full s tk') := by
  refine CallW.x Ty.tok Ty.mixed Tryd.func73 rfl Tryd.ntmps73 rfl (by simp) (by decide +kernel) (.nil σ) ?_
  obtain ⟨h1, h2⟩ := hl
  (conv => whnf)
  skip
  refine SLoop.by Ty.mixed (fun (a : Nat × Tok) => l.length - a.1) (fun (i, tk) => [(3, .slc 1 (aBytes (fB (l.take i))) tk), (8, .slc 1 (l.map eFm) .no), (9, .int .i64 l.length), (10, .int .i64 i)]) (fun _ => []) (fun (i, tk) s => i ≤ l.length ∧ Moves σ .full s tk) (0, .full) ⟨?_, BSub.none _, Nat.zero_le _, .full σ⟩ ?_
  · show xWeak [(3, .slc 1 (aBytes (fB (l.take 0))) .full), (8, .slc 1 (l.map eFm) .no), (9, .int .i64 l.length), (10, .int .i64 (0 : Nat))] _
    rw [List.length_map]
    repeat (first | exact trivial | refine ⟨by first | trivial | exact Weak.refl _ | exact Weak.tok _ _ _ | exact Weak.of_eq (congrArg (AV.int _) (by omega)) | exact Weak.of_eq (congrArg AV.bool (by fail)) | exact Weak.nils _ _ (.inr rfl), ?_⟩)
  rintro ⟨i, tk⟩ s ⟨hi, hm⟩; (conv => whnf)
  skip
  (refine SIf.x Ty.mixed (fun hc => ?_) (fun hc => ?_) <;> (conv => whnf))
  · have hlt : i < l.length := by simp at hc; omega
    have ga : l[i]? = some l[i] := by simp [hlt]
    have hd : fB (l.take (i + 1)) = fB (l.take i) ++ f1 l[i] := by rw [fB_eq, fB_eq]; exact flat_take_snoc f1 ga
    have hb : (fB (l.take i)).length ≤ 2000000 := by
      have := fB_len (l := l.take i) fun x hx => h2 x (List.mem_of_mem_take hx)
      have := List.length_take_le i l
      have : (l.take i).length ≤ l.length := by simp; omega
      omega
    have hx := h2 l[i] (List.getElem_mem hlt)
    generalize l[i] = x at ga hd hx
    have ga' := get_map (f := eFm) ga
    cases x with
    | s v =>
      have hv : v.length ≤ 2000 := by simp only [f1, txt, List.length_append] at hx; omega
      simp only [f1] at hd hx
      refine ⟨_, ⟨by first | omega | (simp only [List.length_cons, List.length_append, List.length_nil, List.length_map, length_aBytes, List.length_replicate, List.length_range]; omega) | fail, by exact ga'⟩, ?_⟩
      (conv => whnf); refine SIf.y Ty.mixed (by exact rfl) ?_; (conv => whnf); refine SCall.p (by exact text_p w0 _ (by omega)) ?_; (conv => whnf)
      refine SApp.c rfl rfl (by assumption) (by simp only [length_aBytes, List.length_append, List.length_cons, List.length_nil, List.length_map, List.length_range]; omega) fun tk1 σ1 hm => ?_
      (conv => whnf); refine ⟨_, IntWalk.i64_in _ (by omega), ?_⟩; (conv => whnf)
      refine ⟨(i + 1, tk1), by show l.length - (i + 1) < l.length - i; omega, ?_, BSub.none _, by omega, hm⟩
      show xWeak [(3, .slc 1 (aBytes (fB (l.take (i + 1)))) tk1), (8, .slc 1 (l.map eFm) .no), (9, .int .i64 l.length), (10, .int .i64 (i + 1 : Nat))] _
      rw [hd, aBytes_append]
      repeat (first | exact trivial | refine ⟨by first | trivial | exact Weak.refl _ | exact Weak.tok _ _ _ | exact Weak.of_eq (congrArg (AV.int _) (by omega)) | exact Weak.of_eq (congrArg AV.bool (by fail)) | exact Weak.nils _ _ (.inr rfl), ?_⟩)
    | n k =>
      simp only [f1] at hd hx
      refine ⟨_, ⟨by first | omega | (simp only [List.length_cons, List.length_append, List.length_nil, List.length_map, length_aBytes, List.length_replicate, List.length_range]; omega) | fail, by exact ga'⟩, ?_⟩
      (conv => whnf); refine SIf.n Ty.mixed (by exact rfl) ?_; (conv => whnf); refine SIf.y Ty.mixed (by exact rfl) ?_; (conv => whnf); refine SCall.p (by exact num_p w0 _) ?_; (conv => whnf)
      refine SApp.c rfl rfl (by assumption) (by simp only [length_aBytes, List.length_append, List.length_cons, List.length_nil, List.length_map, List.length_range]; omega) fun tk1 σ1 hm => ?_
      (conv => whnf); refine ⟨_, IntWalk.i64_in _ (by omega), ?_⟩; (conv => whnf)
      refine ⟨(i + 1, tk1), by show l.length - (i + 1) < l.length - i; omega, ?_, BSub.none _, by omega, hm⟩
      show xWeak [(3, .slc 1 (aBytes (fB (l.take (i + 1)))) tk1), (8, .slc 1 (l.map eFm) .no), (9, .int .i64 l.length), (10, .int .i64 (i + 1 : Nat))] _
      rw [hd, aBytes_append]
      repeat (first | exact trivial | refine ⟨by first | trivial | exact Weak.refl _ | exact Weak.tok _ _ _ | exact Weak.of_eq (congrArg (AV.int _) (by omega)) | exact Weak.of_eq (congrArg AV.bool (by fail)) | exact Weak.nils _ _ (.inr rfl), ?_⟩)
  · have hge : i = l.length := by simp at hc; omega
    subst hge
    skip
    rw [List.take_length]
    exact .w ⟨tk, rfl, hm⟩
theorem form2_p (w0 : World) (l : List Fm) (hl : FmOk l) : CallP Tryd.prog w0 73 [.slc 1 (l.map eFm) .no] (.slc 1 (aBytes (fB l)) .no) := fun σ => (form2_room w0 l hl σ).room
theorem form2_t (w0 : World) (l : List Fm) (hl : FmS l) (hn : l.length ≤ 1000) (tk : Tok) {bs : List UInt8} (hb : fB l = bs) : CallP Tryd.prog w0 73 [.slc 1 (l.map eFm) tk] (.slc 1 (aBytes bs) .no) :=
  fun σ => hb ▸ CallW.weak1 [] [] (.tok 1 (l.map eFm) tk) (form2_p w0 l ⟨hn, hl.ok⟩ σ)
theorem form2_c (w0 : World) (l : List Fm) (hl : FmS l) (hn : l.length ≤ 1000) (tk : Tok) {bs : List UInt8} (hb : fB l = bs) (σ : St) : CallW Tryd.prog w0 73 [.slc 1 (l.map eFm) tk] σ (fun r s => ∃ tk', r = .slc 1 (aBytes bs) tk' ∧ Moves σ .full s tk') :=
  hb ▸ CallW.weak1 [] [] (.tok 1 (l.map eFm) tk) (form2_room w0 l ⟨hn, hl.ok⟩ σ)
end Go.Proofs.YtkbmkhhcppfcnaaDoor
end
section
set_option linter.unusedVariables false
set_option linter.unusedSimpArgs false
set_option maxRecDepth 100000
namespace Go.Proofs.YtkbmkhhcppfcnaaDoor
open Go.Al Go.RowKit
theorem drop_get {v : List UInt8} {a : Nat} {c : UInt8} {r : List UInt8} (h : v.drop a = c :: r) : a < v.length ∧ v.getD a 0 = c ∧ v.drop (a + 1) = r := by
  have hl : a < v.length := by
    by_cases hl : a < v.length
    · exact hl
    · rw [List.drop_of_length_le (by omega)] at h; cases h
  rw [List.drop_eq_getElem_cons hl] at h
  injection h with h1 h2
  exact ⟨hl, by simp [List.getD, hl, h1], h2⟩
theorem byte_val {n : Nat} (h : n < 256) : (UInt8.ofNat n).toNat = n := by simp; omega
theorem gn_numB : ∀ (q k i m : Nat) (v : List UInt8) (a : Nat) (rest : List UInt8), v.drop (a + i) = numB q ++ rest → q < 128 ^ (k + 1) → (0 < i → q ≠ 0) → m + q * 2 ^ (7 * i) ≤ 9007199254740992 →
    gn v a (k + 1) i m = (m + q * 2 ^ (7 * i), a + i + (numB q).length, 0) ∧ v.drop (a + i + (numB q).length) = rest := by
  intro q
  induction q using Nat.strongRecOn with
  | _ q ih =>
    intro k i m v a rest hd hq hi hm
    by_cases h : q < 128
    · rw [numB_small h] at hd ⊢
      obtain ⟨hl, hc, hr⟩ := drop_get hd
      refine ⟨?_, hr⟩
      have hv : (UInt8.ofNat q).toNat = q := byte_val (by omega)
      rw [gn, if_neg (by omega)]
      dsimp only
      rw [hc, hv, Nat.mod_eq_of_lt h, if_pos h, if_neg (by omega)]
      rfl
    · rw [numB_big h] at hd ⊢
      obtain ⟨hl, hc, hr⟩ := drop_get hd
      have hv : (UInt8.ofNat (128 + q % 128)).toNat = 128 + q % 128 := byte_val (by omega)
      have hq0 : q / 128 ≠ 0 := by omega
      have hk : 128 ^ (k + 1) = 128 * 128 ^ k := by rw [Nat.pow_succ, Nat.mul_comm]
      cases k with
      | zero => exact absurd hq (by simp; omega)
      | succ k =>
      have e1 : (2 : Nat) ^ (7 * (i + 1)) = 128 * 2 ^ (7 * i) := by rw [show 7 * (i + 1) = 7 * i + 7 by omega, Nat.pow_add, Nat.mul_comm]
      have e2 : q % 128 * 2 ^ (7 * i) + q / 128 * 2 ^ (7 * (i + 1)) = q * 2 ^ (7 * i) := by
        rw [e1, ← Nat.mul_assoc, ← Nat.add_mul]; congr 1; omega
      obtain ⟨g1, g2⟩ := ih (q / 128) (by omega) k (i + 1) (m + q % 128 * 2 ^ (7 * i)) v a rest (by rw [show a + (i + 1) = a + i + 1 by omega]; exact hr) (by rw [hk] at hq; omega) (fun _ => hq0) (by omega)
      refine ⟨?_, ?_⟩
      · rw [gn, if_neg (by omega)]
        dsimp only
        rw [hc, hv, if_neg (by omega), show (128 + q % 128) % 128 = q % 128 by omega, g1]
        rw [List.length_cons]
        congr 1
        · omega
        · congr 1; omega
      · rw [List.length_cons, ← g2]; congr 1; omega
def At (v : List UInt8) (a : Nat) (r : List UInt8) : Prop := a ≤ v.length ∧ v.drop a = r
theorem at_start (v : List UInt8) : At v 0 v := ⟨Nat.zero_le _, rfl⟩
def n53 (n : Int) : Prop := 0 ≤ n ∧ n ≤ 9007199254740992
theorem clampN_53 {n : Int} (h : n53 n) : ((clampN n : Nat) : Int) = n := by unfold n53 at h; unfold clampN; omega
theorem at_len {v : List UInt8} {a : Nat} {x r : List UInt8} (h : At v a (x ++ r)) : a + x.length ≤ v.length := by
  have h1 := congrArg List.length h.2
  have := h.1
  simp at h1; omega
theorem getNum_at {v : List UInt8} {a : Nat} {n : Int} {r : List UInt8} (h : At v a (num n ++ r)) : getNum v a = (clampN n, a + (num n).length, 0) ∧ At v (a + (num n).length) r := by
  have hc := clampN_le n
  obtain ⟨g1, g2⟩ := gn_numB (clampN n) 7 0 0 v a r (by simpa [num] using h.2) (by omega) (fun h => absurd h (by decide)) (by simpa using hc)
  have e : num n = numB (clampN n) := rfl
  refine ⟨?_, at_len h, ?_⟩
  · rw [getNum, if_neg (by have := h.1; omega), g1, e]; simp
  · rw [e, ← g2]; simp
theorem rNum_at {v : List UInt8} {a : Nat} {n : Int} {r : List UInt8} (h : At v a (num n ++ r)) : rNum v a none = (clampN n, a + (num n).length, none) ∧ At v (a + (num n).length) r := by
  obtain ⟨g1, g2⟩ := getNum_at h
  refine ⟨?_, g2⟩
  rw [rNum, g1]; rfl
theorem getText_at {v : List UInt8} {a most : Nat} {s : List UInt8} {r : List UInt8} (h : At v a (txt s ++ r)) (hs : s.length ≤ most) (hm : most ≤ 9007199254740992) : getText v a most = (s, a + (txt s).length, 0) ∧ At v (a + (txt s).length) r := by
  rw [txt, List.append_assoc] at h
  obtain ⟨g1, g2⟩ := getNum_at h
  have hcl : clampN (s.length : Int) = s.length := by unfold clampN; omega
  have hl := at_len g2
  have hd : (v.drop (a + (num s.length).length)).take s.length = s := by rw [g2.2, List.take_left']; rfl
  have e : (txt s).length = (num s.length).length + s.length := by simp [txt]
  have hx : (v.take (a + (num s.length).length + s.length)).drop (a + (num s.length).length) = s := by
    rw [List.drop_take, show a + (num s.length).length + s.length - (a + (num s.length).length) = s.length by omega, hd]
  refine ⟨?_, by omega, ?_⟩
  · rw [getText, g1, hcl]
    dsimp only
    rw [if_neg (by simp), if_neg (by omega), if_neg (by omega), hx, e, Nat.add_assoc]
  · rw [e, ← Nat.add_assoc, ← List.drop_drop, g2.2, List.drop_left']; rfl
theorem rText_at {v : List UInt8} {a most : Nat} {s : List UInt8} {r : List UInt8} (h : At v a (txt s ++ r)) (hs : s.length ≤ most) (hm : most ≤ 9007199254740992) : rText v a none most = (s, a + (txt s).length, none) ∧ At v (a + (txt s).length) r := by
  obtain ⟨g1, g2⟩ := getText_at h hs hm
  refine ⟨?_, g2⟩
  rw [rText, g1]; rfl
end Go.Proofs.YtkbmkhhcppfcnaaDoor
end
section
set_option linter.unusedVariables false
set_option linter.unusedSimpArgs false
set_option maxRecDepth 100000
set_option maxHeartbeats 400000
namespace Go.Proofs.YtkbmkhhcppfcnaaDoor
open Go.Al Go.RowKit
def gL (c : List UInt8) (i : Nat) : Nat := (c.getD i 0).toNat
theorem gL_lt (c : List UInt8) (i : Nat) : gL c i < 256 := (c.getD i 0).toNat_lt
theorem g_any (w0 : World) (c : List UInt8) (t : Tok) (i : Nat) : CallP Tryd.prog w0 83 [.slc 1 (aBytes c) t, .int .i64 i] (.int .i64 (gL c i)) := by
  refine CallP.start Tryd.func83 rfl Tryd.ntmps83 (by simp) fun σ Q hQ => ?_
  by_cases h : i < c.length
  · have ga : c[i]? = some (c.getD i 0) := by simp [h]
    have hb := gL_lt c i
    refine W.seq ?_; refine W.regionL (by decide +kernel) rfl ?_; apply r_op; exact rfl; exact rfl; apply a_assign; (conv => (lhs; whnf)); (with_reducible refine runs_done ?_); refine W.seq ?_; refine W.seq ?_; refine W.regionL (by decide +kernel) rfl ?_; apply r_op; exact rfl; exact rfl; apply a_move; (conv => (lhs; whnf)); apply r_op; exact rfl; exact rfl; apply a_move; (conv => (lhs; whnf))
    apply r_op; exact rfl; exact rfl; apply g_call; exact a_len_slc rfl; apply r_op; exact rfl; exact rfl; apply g_binOp; exact a_binI rfl rfl rfl; (with_reducible refine runs_done ?_); refine W.cond rfl (fun hc => ?_) (fun hc => ?_); refine W.seq ?_; refine W.regionL (by decide +kernel) rfl ?_; apply r_op; exact rfl; exact rfl; apply a_move; (conv => (lhs; whnf)); apply r_op; exact rfl; exact rfl
    apply a_move; (conv => (lhs; whnf)); apply r_op; exact rfl; exact rfl; apply g_indexAddr; exact a_indexAddr rfl rfl (by decide) (by omega) (by exact get_map (by assumption)); apply r_op; exact rfl; exact rfl; apply g_load; exact a_load1 rfl rfl; apply r_op; exact rfl; exact rfl; apply g_convert; exact a_convI rfl; apply r_op; exact rfl; exact rfl; apply a_assign; (conv => (lhs; whnf))
    (with_reducible refine runs_done ?_); refine W.ret ?_; show Q Exit.ret _ _; refine post_q hQ (by apply res_tmp; exact rfl; exact res_nil) (.inl rfl) (by exact .refl _) ?_; (conv => (lhs; whnf)); rotate_left; refine W.skip ?_; show W _ _ _ _ _ _ _; refine W.seq ?_; refine W.regionL (by decide +kernel) rfl ?_; apply r_op; exact rfl; exact rfl; apply a_assign; (conv => (lhs; whnf))
    (with_reducible refine runs_done ?_); refine W.ret ?_; show Q Exit.ret _ _; refine post_q hQ (by apply res_tmp; exact rfl; exact res_nil) (.inl rfl) (by exact .refl _) ?_; (conv => (lhs; whnf)); rotate_left
    · show AV.int .i64 (IntKind.i64.wrap _) = _
      rw [IntWalk.i64_in _ (by have := (c.getD i 0).toNat_lt; omega)]; rfl
    · simp [length_aBytes] at hc; omega
  · refine W.seq ?_
    refine W.regionL (by decide +kernel) rfl ?_; apply r_op; exact rfl; exact rfl; apply a_assign; (conv => (lhs; whnf)); (with_reducible refine runs_done ?_); refine W.seq ?_; refine W.seq ?_; refine W.regionL (by decide +kernel) rfl ?_; apply r_op; exact rfl; exact rfl; apply a_move; (conv => (lhs; whnf)); apply r_op; exact rfl; exact rfl; apply a_move; (conv => (lhs; whnf)); apply r_op; exact rfl
    exact rfl; apply g_call; exact a_len_slc rfl; apply r_op; exact rfl; exact rfl; apply g_binOp; exact a_binI rfl rfl rfl; (with_reducible refine runs_done ?_); refine W.cond rfl (fun hc => ?_) (fun hc => ?_); refine W.seq ?_; refine W.regionL (by decide +kernel) rfl ?_; apply r_op; exact rfl; exact rfl; apply a_move; (conv => (lhs; whnf)); apply r_op; exact rfl; exact rfl; apply a_move
    (conv => (lhs; whnf)); rotate_left; refine W.skip ?_; show W _ _ _ _ _ _ _; refine W.seq ?_; refine W.regionL (by decide +kernel) rfl ?_; apply r_op; exact rfl; exact rfl; apply a_assign; (conv => (lhs; whnf)); (with_reducible refine runs_done ?_); refine W.ret ?_; show Q Exit.ret _ _; refine post_q hQ (by apply res_tmp; exact rfl; exact res_nil) (.inl rfl) (by exact .refl _) ?_
    (conv => (lhs; whnf)); rotate_left
    · simp [length_aBytes] at hc; omega
    · have : c.getD i 0 = 0 := by simp [List.getD, List.getElem?_eq_none (Nat.le_of_not_lt h)]
      rw [gL, this]; rfl
def letter (k i : Nat) : UInt8 := UInt8.ofNat (97 + (i + k) % 26)
def textL (k most : Nat) : List UInt8 := (List.range (k % (most + 1))).map (letter k)
theorem textL_len (k most : Nat) : (textL k most).length ≤ most := by simp [textL]; have := Nat.mod_lt k (show 0 < most + 1 by omega); omega
theorem letter_eq (k i : Nat) : Al.byteOf (97 + ((Al.byteOf (((i : Int) + (k : Int)) % 26)).toNat : Int)) = letter k i := by
  have e : (((i : Int) + (k : Int)) % 26 : Int) = ((i + k) % 26 : Nat) := by omega
  rw [e, byteOf_toNat _ (by omega)]
  show Al.byteOf ((97 + (i + k) % 26 : Nat) : Int) = _
  simp only [Al.byteOf, letter]
  have : ((97 + (i + k) % 26 : Nat) : Int) % 256 = (97 + (i + k) % 26 : Nat) := by omega
  rw [this]; rfl
theorem lawtext_any (w0 : World) (k most : Nat) (hk : k ≤ 1000000000) (hm : most ≤ 1000000000) : CallP Tryd.prog w0 82 [.int .i64 k, .int .i64 most] (.str (textL k most)) := by
  refine CallP.start Tryd.func82 rfl Tryd.ntmps82 (by simp) fun σ Q hQ => ?_
  refine W.seq ?_; refine W.regionL (by decide +kernel) rfl ?_; apply r_op; exact rfl; exact rfl; apply a_assign; (conv => (lhs; whnf)); (with_reducible refine runs_done ?_); refine W.seq ?_; refine W.regionL (by decide +kernel) rfl ?_; apply r_op; exact rfl; exact rfl; apply a_assign; (conv => (lhs; whnf)); (with_reducible refine runs_done ?_); refine W.seq ?_; refine W.seq ?_
  refine W.regionL (by decide +kernel) rfl ?_; apply r_op; exact rfl; exact rfl; apply a_assign; (conv => (lhs; whnf)); (with_reducible refine runs_done ?_); refine W.block ?_
  refine W.loop (fun n E s => ∃ i : Nat, i ≤ k % (most + 1) ∧ n = k % (most + 1) - i ∧ s = σ ∧ Has [(0, .int .i64 k), (1, .int .i64 most), (5, .str ((List.range i).map (letter k))), (6, .int .i64 i)] E) (k % (most + 1)) ⟨0, Nat.zero_le _, rfl, rfl, by exact Has.by (by repeat (first | exact trivial | refine ⟨by first | trivial | exact Weak.refl _ | exact Weak.tok _ _ _ | exact Weak.of_eq (congrArg (AV.int _) (by omega)) | exact Weak.nils _ _ (.inr rfl), ?_⟩))⟩ ?_
  rintro n E s ⟨i, hi, rfl, rfl, hE⟩; refine W.has hE ?_; clear hE
  have hlt := Nat.mod_lt k (show 0 < most + 1 by omega)
  have hmod : ((k % (most + 1) : Nat) : Int) = (k : Int) % ((most : Int) + 1) := by simp
  have hlen : ((List.range i).map (letter k)).length = i := by simp
  refine W.seq ?_; refine W.seq ?_; refine W.regionL (by decide +kernel) rfl ?_; apply r_op; exact rfl; exact rfl; apply a_move; (conv => (lhs; whnf)); apply r_op; exact rfl; exact rfl; apply a_move; (conv => (lhs; whnf)); apply r_op; exact rfl; exact rfl; apply a_move; (conv => (lhs; whnf)); apply r_op; exact rfl; exact rfl; apply g_binOp; exact a_add64 rfl rfl (by omega); apply r_op; exact rfl
  exact rfl; apply g_binOp; exact a_rem rfl rfl (by omega); apply r_op; exact rfl; exact rfl; apply g_binOp; exact a_binI rfl rfl rfl; (with_reducible refine runs_done ?_); refine W.cond rfl (fun hc => ?_) (fun hc => ?_); refine W.skip ?_; show W _ _ _ _ _ _ _; refine W.seq ?_; refine W.block ?_; refine W.regionL (by decide +kernel) rfl ?_; apply r_op; exact rfl; exact rfl; apply a_move
  (conv => (lhs; whnf)); apply r_op; exact rfl; exact rfl; apply a_move; (conv => (lhs; whnf)); apply r_op; exact rfl; exact rfl; apply a_move; (conv => (lhs; whnf)); apply r_op; exact rfl; exact rfl; apply g_binOp; exact a_add64 rfl rfl (by omega); apply r_op; exact rfl; exact rfl; apply g_binOp; exact a_rem rfl rfl (by omega); apply r_op; exact rfl; exact rfl; apply g_convert; exact a_convB rfl
  apply r_op; exact rfl; exact rfl; apply g_binOp; exact a_u8add rfl rfl; apply r_op; exact rfl; exact rfl; apply g_buildSlice; apply a_build1; (conv => (lhs; whnf)); exact rfl; exact rfl; decide; apply r_op; exact rfl; exact rfl; apply g_convert; exact a_bytesStrX rfl (by apply toB_cons; exact toB_nil); apply r_op; exact rfl; exact rfl; apply g_binOp
  exact a_addS rfl rfl (by simp only [length_aBytes, List.length_append, List.length_cons, List.length_nil, List.length_map, List.length_range]; omega); apply r_op; exact rfl; exact rfl; apply a_assign; (conv => (lhs; whnf)); (with_reducible refine runs_done ?_); refine W.regionL (by decide +kernel) rfl ?_; apply r_op; exact rfl; exact rfl; apply a_move; (conv => (lhs; whnf)); apply r_op; exact rfl
  exact rfl; apply g_binOp; exact a_add64 rfl rfl (by omega); apply r_op; exact rfl; exact rfl; apply a_assign; (conv => (lhs; whnf)); (with_reducible refine runs_done ?_); rotate_left; refine W.exit ?_; show W _ _ _ _ _ _ _; refine W.seq ?_; refine W.regionL (by decide +kernel) rfl ?_; apply r_op; exact rfl; exact rfl; apply a_move; (conv => (lhs; whnf)); apply r_op; exact rfl; exact rfl
  apply a_assign; (conv => (lhs; whnf)); (with_reducible refine runs_done ?_); refine W.ret ?_; show Q Exit.ret _ _; refine post_q hQ (by apply res_tmp; exact rfl; exact res_nil) (.inl rfl) (by exact .refl _) ?_; (conv => (lhs; whnf)); rotate_left
  · have h1 : i < k % (most + 1) := by rw [← hmod] at hc; simp only [decide_eq_true_eq] at hc; omega
    refine ⟨k % (most + 1) - (i + 1), by omega, i + 1, by omega, rfl, rfl, ?_⟩
    rw [List.range_succ, List.map_append]
    simp only [List.map_cons, List.map_nil]
    rw [← letter_eq]
    exact Has.by (by repeat (first | exact trivial | refine ⟨by first | trivial | exact Weak.refl _ | exact Weak.tok _ _ _ | exact Weak.of_eq (congrArg (AV.int _) (by omega)) | exact Weak.nils _ _ (.inr rfl), ?_⟩))
  · have h1 : i = k % (most + 1) := by rw [← hmod] at hc; simp only [decide_eq_false_iff_not] at hc; omega
    rw [h1]; rfl
end Go.Proofs.YtkbmkhhcppfcnaaDoor
end
section
set_option linter.unusedVariables false
namespace Go.Proofs.YtkbmkhhcppfcnaaDoor
open Go.Al
def Rise : Int → List Int → Prop
  | _, [] => True
  | lo, a :: l => lo < a ∧ Rise a l
theorem Rise.snoc : ∀ {l : List Int} {lo b : Int}, Rise lo l → lo < b → (∀ a ∈ l, a < b) → Rise lo (l ++ [b])
  | [], lo, b, _, h, _ => ⟨h, trivial⟩
  | a :: l, lo, b, h, hb, ha => ⟨h.1, Rise.snoc h.2 (ha a (by simp)) fun c hc => ha c (by simp [hc])⟩
theorem Rise.lt : ∀ {l : List Int} {lo : Int}, Rise lo l → ∀ a ∈ l, lo < a
  | [], _, _, a, h => by simp at h
  | b :: l, lo, h, a, ha => by
    rcases List.mem_cons.1 ha with rfl | ha
    · exact h.1
    · have := Rise.lt h.2 a ha
      have := h.1
      omega
structure MsgOk (clock most lease : Int) (m : Msg) : Prop where
  body : m.body.length ≤ 60
  attr : m.attr = [] ∨ m.attr = [97, 61, 49] ∨ m.attr = [98, 61, 50]
  prio : 0 ≤ m.prio ∧ m.prio ≤ 9
  st : (m.dead = false ∧ m.why = [] ∧ m.until_ = 0 ∧ 0 ≤ m.tries ∧ m.tries < most) ∨ (m.dead = false ∧ m.why = [] ∧ (1 ≤ m.tries ∧ m.tries ≤ most) ∧ clock < m.until_ ∧ m.until_ ≤ clock + lease) ∨
    (m.dead = true ∧ m.until_ = 0 ∧ m.tries = most ∧ (m.why = [110, 97, 99, 107] ∨ m.why = [116, 105, 109, 101]))
def TopicOk (v : List UInt8) : Prop := v = [35] ∨ v = [97] ∨ v = [97, 47, 43] ∨ v = [98, 47, 35]
def WantOk (v : List UInt8) : Prop := v = [] ∨ v = [97, 61, 49] ∨ v = [97, 61, 49, 44, 98, 61, 50]
structure Grown (id clock next : Nat) (x : Sub) : Prop where
  name : ∃ k, k < 256 ∧ x.name = 110 :: textL k 19
  topic : TopicOk x.topic
  want : WantOk x.want
  note : x.note.length ≤ 30
  id : x.id = id
  most : 1 ≤ x.most ∧ x.most ≤ 9
  lease : 1 ≤ x.lease ∧ x.lease ≤ 1000
  floor : 0 ≤ x.floor ∧ x.floor < next
  nacks : x.acks.length ≤ 20
  nqueue : x.queue.length ≤ 30
  rise : Rise x.floor x.acks
  high : ∀ a ∈ x.acks, a < next
  qrise : Rise x.floor (x.queue.map Msg.seq)
  qhigh : ∀ m ∈ x.queue, m.seq < next
  apart : ∀ a ∈ x.acks, ∀ m ∈ x.queue, a ≠ m.seq
  msgs : ∀ m ∈ x.queue, MsgOk clock x.most x.lease m
theorem TopicOk.len {v : List UInt8} (h : TopicOk v) : v.length ≤ 30 := by rcases h with rfl | rfl | rfl | rfl <;> decide
theorem WantOk.len {v : List UInt8} (h : WantOk v) : v.length ≤ 30 := by rcases h with rfl | rfl | rfl <;> decide
theorem MsgOk.alen {c m l : Int} {x : Msg} (h : MsgOk c m l x) : x.attr.length ≤ 30 := by rcases h.attr with e | e | e <;> rw [e] <;> decide
theorem Grown.nlen {id clock next : Nat} {x : Sub} (h : Grown id clock next x) : x.name.length ≤ 20 := by
  obtain ⟨k, _, e⟩ := h.name
  have := textL_len k 19
  rw [e]; simp; omega
theorem Grown.fits {id clock next : Nat} {x : Sub} (h : Grown id clock next x) : Fits x :=
  ⟨by have := h.nlen; omega, by have := h.topic.len; omega, by have := h.want.len; omega, by have := h.note; omega, by have := h.nacks; omega, by have := h.nqueue; omega,
    fun m hm => by have h1 := h.msgs m hm; have := h1.body; have := h1.alen; omega⟩
structure UpTo (x : Sub) (seq : Int) : Prop where
  floor : x.floor ≤ seq
  acks : ∀ a ∈ x.acks, a ≤ seq
  queue : ∀ m ∈ x.queue, m.seq ≤ seq
theorem Grown.withNote {id clock next : Nat} {x : Sub} (h : Grown id clock next x) {s : List UInt8} (hs : s.length ≤ 30) : Grown id clock next { x with note := s } :=
  ⟨h.name, h.topic, h.want, hs, h.id, h.most, h.lease, h.floor, h.nacks, h.nqueue, h.rise, h.high, h.qrise, h.qhigh, h.apart, h.msgs⟩
theorem Grown.ack {id clock next : Nat} {x : Sub} (h : Grown id clock next x) {seq s : Int} (hu : UpTo x seq) (hs : seq < s) (hn : s < next) (hl : x.acks.length < 20) : Grown id clock next { x with acks := x.acks ++ [s] } ∧ UpTo { x with acks := x.acks ++ [s] } s := by
  have hf := hu.floor
  refine ⟨⟨h.name, h.topic, h.want, h.note, h.id, h.most, h.lease, h.floor, by simp; omega, h.nqueue, h.rise.snoc (by omega) fun a ha => by have := hu.acks a ha; omega, ?_, h.qrise, h.qhigh, ?_, h.msgs⟩, ⟨by show x.floor ≤ s; omega, ?_, fun m hm => by have := hu.queue m hm; omega⟩⟩
  · intro a ha
    rcases List.mem_append.1 ha with ha | ha
    · exact h.high a ha
    · obtain rfl := List.mem_singleton.1 ha; exact hn
  · intro a ha m hm
    rcases List.mem_append.1 ha with ha | ha
    · exact h.apart a ha m hm
    · obtain rfl := List.mem_singleton.1 ha
      have := hu.queue m hm
      omega
  · intro a ha
    rcases List.mem_append.1 ha with ha | ha
    · have := hu.acks a ha; omega
    · obtain rfl := List.mem_singleton.1 ha; exact Int.le_refl _
theorem Grown.msg {id clock next : Nat} {x : Sub} (h : Grown id clock next x) {seq : Int} {m : Msg} (hu : UpTo x seq) (hs : seq < m.seq) (hn : m.seq < next) (hl : x.queue.length < 30) (hm : MsgOk clock x.most x.lease m) : Grown id clock next { x with queue := x.queue ++ [m] } ∧ UpTo { x with queue := x.queue ++ [m] } m.seq := by
  have hf := hu.floor
  refine ⟨⟨h.name, h.topic, h.want, h.note, h.id, h.most, h.lease, h.floor, h.nacks, by simp; omega, h.rise, h.high, ?_, ?_, ?_, ?_⟩, ⟨by show x.floor ≤ m.seq; omega, fun a ha => by have := hu.acks a ha; omega, ?_⟩⟩
  · show Rise x.floor ((x.queue ++ [m]).map Msg.seq)
    rw [List.map_append]
    refine h.qrise.snoc (by omega) fun a ha => ?_
    obtain ⟨y, hy, rfl⟩ := List.mem_map.1 ha
    have := hu.queue y hy; omega
  · intro a ha
    rcases List.mem_append.1 ha with ha | ha
    · exact h.qhigh a ha
    · obtain rfl := List.mem_singleton.1 ha; exact hn
  · intro a ha y hy
    rcases List.mem_append.1 hy with hy | hy
    · exact h.apart a ha y hy
    · obtain rfl := List.mem_singleton.1 hy
      have := hu.acks a ha
      omega
  · intro y hy
    rcases List.mem_append.1 hy with hy | hy
    · exact h.msgs y hy
    · obtain rfl := List.mem_singleton.1 hy; exact hm
  · intro y hy
    rcases List.mem_append.1 hy with hy | hy
    · have := hu.queue y hy; omega
    · obtain rfl := List.mem_singleton.1 hy; exact Int.le_refl _
end Go.Proofs.YtkbmkhhcppfcnaaDoor
end
section
set_option linter.unusedVariables false
set_option linter.unusedSimpArgs false
namespace Go.Proofs.YtkbmkhhcppfcnaaDoor
open Go.Al
structure Pts where
  v : Nat
  t : UInt8
  id : Int
  seq : Int
  ok : Bool
def Pts.none : Pts := ⟨0, 0, 0, 0, false⟩
def parts (k : List UInt8) : Pts :=
  if k.length = 22 ∧ (48 ≤ (k.getD 0 0).toNat ∧ (k.getD 0 0).toNat ≤ 57) ∧ (97 ≤ (k.getD 1 0).toNat ∧ (k.getD 1 0).toNat ≤ 122) then
    if (goAtoi ((k.take 12).drop 2)).2 = true ∧ (goAtoi (k.drop 12)).2 = true ∧ rkey ((k.getD 0 0).toNat - 48) (k.getD 1 0) (goAtoi ((k.take 12).drop 2)).1 (goAtoi (k.drop 12)).1 = k then
      ⟨(k.getD 0 0).toNat - 48, k.getD 1 0, (goAtoi ((k.take 12).drop 2)).1, (goAtoi (k.drop 12)).1, true⟩
    else .none
  else .none
theorem cl_nn {n : Int} (h : 0 ≤ n ∧ n ≤ 9999999999) : ((cl n : Nat) : Int) = n := by unfold cl; omega
theorem goAtoi_dN (n : Int) : goAtoi (dN 10 (cl n)) = (((cl n : Nat) : Int), true) := goAtoi_ok (n := ((cl n : Nat) : Int)) (by rw [dN_length]; decide) (atoi_dN 9 (cl n) (cl_lt n))
theorem rkey_take (v : Nat) (t : UInt8) (id seq : Int) : ((rkey v t id seq).take 12).drop 2 = dN 10 (cl id) := by
  have hA := dN_length 10 (cl id)
  show ((dN 10 (cl id)) ++ (dN 10 (cl seq))).take 10 = _
  rw [List.take_append_of_le_length (by omega), List.take_of_length_le (by omega)]
theorem rkey_drop (v : Nat) (t : UInt8) (id seq : Int) : (rkey v t id seq).drop 12 = dN 10 (cl seq) := by
  have hA := dN_length 10 (cl id)
  show ((dN 10 (cl id)) ++ (dN 10 (cl seq))).drop 10 = _
  rw [List.drop_append_of_le_length (by omega), List.drop_of_length_le (by omega)]; rfl
theorem rkey_0 (v : Nat) (t : UInt8) (id seq : Int) : (rkey v t id seq).getD 0 0 = UInt8.ofNat (48 + v) := rfl
theorem rkey_1 (v : Nat) (t : UInt8) (id seq : Int) : (rkey v t id seq).getD 1 0 = t := rfl
theorem rkey_cl (v : Nat) (t : UInt8) (id seq : Int) : rkey v t (cl id : Nat) (cl seq : Nat) = rkey v t id seq := by
  have h : ∀ n : Int, cl ((cl n : Nat) : Int) = cl n := fun n => by unfold cl; omega
  simp only [rkey, h]
theorem parts_rkey {v : Nat} (hv : v < 10) {t : UInt8} (ht : 97 ≤ t.toNat ∧ t.toNat ≤ 122) (id seq : Int) : parts (rkey v t id seq) = ⟨v, t, (cl id : Nat), (cl seq : Nat), true⟩ := by
  have hb : (UInt8.ofNat (48 + v)).toNat = 48 + v := byte_val (by omega)
  rw [parts, rkey_0, rkey_1, rkey_take, rkey_drop, goAtoi_dN, goAtoi_dN, hb, rkey_length, if_pos ⟨rfl, by omega, ht⟩]
  rw [show 48 + v - 48 = v by omega]
  simp only [rkey_cl, and_self, if_true]
theorem parts_ok {k : List UInt8} (h : (parts k).ok = true) : (parts k).v < 10 ∧ (97 ≤ (parts k).t.toNat ∧ (parts k).t.toNat ≤ 122) ∧ k = rkey (parts k).v (parts k).t (parts k).id (parts k).seq := by
  unfold parts at h ⊢
  split at h
  · rename_i h1
    rw [if_pos h1]
    split at h
    · rename_i h2
      rw [if_pos h2]
      exact ⟨by show _ - 48 < 10; omega, h1.2.2, h2.2.2.symm⟩
    · cases h
  · cases h
theorem parts_no {k : List UInt8} (h : ¬ (parts k).ok = true) : parts k = .none := by
  unfold parts at h ⊢
  split
  · rename_i h1
    rw [if_pos h1] at h
    split
    · rename_i h2
      rw [if_pos h2] at h
      exact absurd rfl h
    · rfl
  · rfl
theorem digit0 (k : List UInt8) (c : UInt8) : ∃ n : Nat, n < 10 ∧ (goAtoi [c]).1 = n ∧ (48 ≤ c.toNat ∧ c.toNat ≤ 57 → n = c.toNat - 48) := by
  by_cases h : 48 ≤ c.toNat ∧ c.toNat ≤ 57
  · have hd : c = dig (c.toNat - 48) := by
      apply UInt8.toNat_inj.1
      rw [dig, byte_val (by omega)]; omega
    have e : [c] = dN 1 (c.toNat - 48) := by rw [dN, dN, ← hd]; rfl
    have := goAtoi_ok (s := [c]) (by simp) (by rw [e]; exact atoi_dN 0 (c.toNat - 48) (by omega))
    exact ⟨c.toNat - 48, by omega, by rw [this], fun _ => rfl⟩
  · refine ⟨0, by decide, ?_, fun h' => absurd h' h⟩
    have hn : Go.Lib.digitVal c = none := by unfold Go.Lib.digitVal; rw [if_neg (by omega)]
    have : Go.Lib.atoi [c] = none := by
      have h1 : Go.Lib.decNat [c] = none := by simp [Go.Lib.decNat, Go.Lib.decFrom, hn]
      have h2 : Go.Lib.decNat [] = none := rfl
      rw [Go.Lib.atoi, h1, h2]
      simp
    rw [goAtoi, Go.Lib.atoiAll_short [c] (by simp), this]; rfl
def partsR (k : List UInt8) : Pts :=
  if k.length = 22 ∧ (97 ≤ (k.getD 1 0).toNat ∧ (k.getD 1 0).toNat ≤ 122) then
    if rkey (goAtoi (k.take 1)).1.toNat (k.getD 1 0) (goAtoi ((k.take 12).drop 2)).1 (goAtoi (k.drop 12)).1 = k then
      ⟨(goAtoi (k.take 1)).1.toNat, k.getD 1 0, (goAtoi ((k.take 12).drop 2)).1, (goAtoi (k.drop 12)).1, true⟩
    else .none
  else .none
theorem rkey_eq {k : List UInt8} {v : Nat} {t : UInt8} {a b : Int} (h : rkey v t a b = k) : goAtoi ((k.take 12).drop 2) = (((cl a : Nat) : Int), true) ∧ goAtoi (k.drop 12) = (((cl b : Nat) : Int), true) ∧ k.getD 0 0 = UInt8.ofNat (48 + v) := by
  subst h
  rw [rkey_take, rkey_drop, goAtoi_dN, goAtoi_dN]
  exact ⟨rfl, rfl, rfl⟩
theorem partsR_eq (k : List UInt8) : partsR k = parts k := by
  unfold partsR
  split
  · rename_i h1
    obtain ⟨c, k', rfl⟩ : ∃ c k', k = c :: k' := by
      cases k with
      | nil => simp at h1
      | cons c k' => exact ⟨c, k', rfl⟩
    have ht : (c :: k').take 1 = [c] := rfl
    obtain ⟨n, hn, e, hd⟩ := digit0 (c :: k') c
    rw [ht, e, Int.toNat_natCast]
    split
    · rename_i h2
      obtain ⟨g1, g2, g3⟩ := rkey_eq h2
      have gc : c = UInt8.ofNat (48 + n) := g3
      have gn : c.toNat = 48 + n := by rw [gc, byte_val (by omega)]
      have h48 : 48 ≤ ((c :: k').getD 0 0).toNat ∧ ((c :: k').getD 0 0).toNat ≤ 57 := by show 48 ≤ c.toNat ∧ c.toNat ≤ 57; omega
      have hv : ((c :: k').getD 0 0).toNat - 48 = n := by show c.toNat - 48 = n; omega
      rw [parts, if_pos ⟨h1.1, h48, h1.2⟩, if_pos ⟨by rw [g1], by rw [g2], by rw [hv]; exact h2⟩, hv]
    · rename_i h2
      rw [parts]
      split
      · rename_i h3
        rw [if_neg]
        rintro ⟨_, _, h4⟩
        have : ((c :: k').getD 0 0).toNat - 48 = n := (hd h3.2.1).symm
        rw [this] at h4
        exact h2 h4
      · rfl
  · rename_i h1
    rw [parts, if_neg]
    rintro ⟨h2, _, h3⟩
    exact h1 ⟨h2, h3⟩
end Go.Proofs.YtkbmkhhcppfcnaaDoor
end
section
set_option linter.unusedVariables false
set_option linter.unusedSimpArgs false
namespace Go.Proofs.YtkbmkhhcppfcnaaDoor
open Go.Al
def whyN (k : Nat) : List UInt8 := if k = 0 then [] else if k = 1 then [110, 97, 99, 107] else [116, 105, 109, 101]
def rMsg (seq : Int) (v : List UInt8) (a : Nat) (f : Option Nat) : Msg × Nat × Option Nat :=
  let p1 := rText v a f 60
  let p2 := rText v p1.2.1 p1.2.2 30
  let p3 := rNum v p2.2.1 p2.2.2
  let p4 := rNum v p3.2.1 p3.2.2
  let p5 := rNum v p4.2.1 p4.2.2
  let p6 := rNum v p5.2.1 p5.2.2
  (⟨seq, p1.1, p2.1, p3.1, p4.1, decide ((0 : Int) < (p6.1 : Int)), whyN (min p6.1 2), p5.1⟩, p6.2.1, p6.2.2)
def rSub (x : Sub) (v : List UInt8) : Sub × Option Nat :=
  let p1 := rText v 0 none 30
  let p2 := rText v p1.2.1 p1.2.2 30
  let p3 := rText v p2.2.1 p2.2.2 30
  let p4 := rNum v p3.2.1 p3.2.2
  let p5 := rNum v p4.2.1 p4.2.2
  let p6 := rNum v p5.2.1 p5.2.2
  let p7 := rText v p6.2.1 p6.2.2 30
  ({ x with name := p1.1, topic := p2.1, want := p3.1, lease := p4.1, most := p5.1, floor := p6.1, note := p7.1 }, p7.2.2)
def rGaps (v : List UInt8) : Nat → Nat → Option Nat → List Int → List Int × Option Nat
  | 0, _, f, acc => (acc, f)
  | n + 1, a, f, acc => if f = none then rGaps v n (rNum v a f).2.1 (rNum v a f).2.2 (acc ++ [((rNum v a f).1 : Int)]) else (acc, f)
structure D3 where
  x : Sub
  gaps : List Int
  good : Bool
def sub0 : Sub := ⟨0, [], [], [], 0, 0, 0, [], [], []⟩
def dRow (d : D3) (r : Row) : D3 × Option Nat :=
  let p := parts r.key
  let x := { d.x with id := p.id }
  if p.t = 97 then
    let q := rNum r.val 0 none
    let g := rGaps r.val q.1 q.2.1 q.2.2 d.gaps
    (⟨x, g.1, d.good⟩, g.2)
  else if p.t = 113 then
    let m := rMsg p.seq r.val 0 none
    (⟨{ x with queue := x.queue ++ [m.1] }, d.gaps, d.good⟩, m.2.2)
  else if p.t = 115 then
    let s := rSub x r.val
    (⟨s.1, d.gaps, d.good⟩, s.2)
  else (⟨x, d.gaps, d.good⟩, none)
def gtS (a b : List UInt8) : Bool := !(ltS a b || decide (a = b))
def dStep (d : D3) (i : Nat) (prev : List UInt8) (r : Row) : D3 :=
  let q := dRow d r
  { q.1 with good := d.good && (decide (i = 0) || gtS r.key prev) && q.2.isNone }
def dRows (l : List Row) : Nat → D3
  | 0 => ⟨sub0, [], true⟩
  | i + 1 => dStep (dRows l i) i ((l[i - 1]?).getD ⟨[], []⟩).key ((l[i]?).getD ⟨[], []⟩)
def runUp (last : Int) : List Int → List Int
  | [] => []
  | g :: l => w64 (last + g) :: runUp (w64 (last + g)) l
def dSub (l : List Row) : Sub := let d := dRows l l.length; { d.x with acks := runUp d.x.floor d.gaps }
def dec3 (l : List Row) : Sub × Nat := if (dRows l l.length).good = true ∧ enc3 (dSub l) = l then (dSub l, 0) else (sub0, 11)
end Go.Proofs.YtkbmkhhcppfcnaaDoor
end
section
set_option linter.unusedVariables false
set_option linter.unusedSimpArgs false
namespace Go.Proofs.YtkbmkhhcppfcnaaDoor
open Go.Al
theorem rNum_far (v : List UInt8) (a : Nat) (f : Option Nat) : (rNum v a f).2.1 ≤ max a v.length := by
  have h := (getNum_le v a).1
  simp only [rNum, atN]; split <;> omega
theorem getText_far (v : List UInt8) (a most : Nat) : (getText v a most).2.1 ≤ v.length ∧ (getText v a most).1.length ≤ most := by
  have h := (getNum_le v a).1
  unfold getText
  dsimp only
  split
  · simp
  · split
    · simp
    · split
      · simp
      · simp; omega
theorem rText_far (v : List UInt8) (a : Nat) (f : Option Nat) (most : Nat) : (rText v a f most).2.1 ≤ max a v.length := by
  have h := (getText_far v a most).1
  simp only [rText, atN]; split <;> omega
theorem rText_len (v : List UInt8) (a : Nat) (f : Option Nat) (most : Nat) : (rText v a f most).1.length ≤ most := by
  have h := (getText_far v a most).2
  simp only [rText]; split
  · exact h
  · simp
theorem gn_gt : ∀ (v : List UInt8) (a k i n : Nat), (gn v a k i n).2.2 = 0 → a + i < (gn v a k i n).2.1
  | v, a, 0, i, n, h => by simp [gn] at h
  | v, a, k + 1, i, n, h => by
    rw [gn] at h ⊢
    split
    · rename_i h1; rw [if_pos h1] at h; simp at h
    · rename_i h1
      rw [if_neg h1] at h
      dsimp only at h ⊢
      split
      · rename_i h2
        rw [if_pos h2] at h
        split
        · rename_i h3; rw [if_pos h3] at h; simp at h
        · simp
      · rename_i h2
        rw [if_neg h2] at h
        have := gn_gt v a k (i + 1) _ h
        omega
theorem getNum_gt (v : List UInt8) (a : Nat) (h : (getNum v a).2.2 = 0) : a < (getNum v a).2.1 := by
  unfold getNum at h ⊢
  split
  · rename_i h1; rw [if_pos h1] at h; simp at h
  · rename_i h1
    rw [if_neg h1] at h
    exact gn_gt v a 8 0 0 h
theorem rNum_step (v : List UInt8) (a : Nat) : (rNum v a none).2.2 = none → a < (rNum v a none).2.1 ∧ (rNum v a none).2.1 ≤ v.length := by
  intro h
  have he : (getNum v a).2.2 = 0 := by
    simp only [rNum, errN] at h
    by_cases he : (getNum v a).2.2 = 0
    · exact he
    · rw [if_neg he] at h; cases h
  have h1 := getNum_gt v a he
  have h2 := (getNum_le v a).1
  simp only [rNum, atN, if_pos he]
  exact ⟨h1, h2⟩
theorem rGaps_len : ∀ (v : List UInt8) (n a : Nat) (f : Option Nat) (acc : List Int), (f = none → a ≤ v.length) → (rGaps v n a f acc).1.length ≤ acc.length + (v.length - a) + 1
  | v, 0, a, f, acc, h => by simp [rGaps]; omega
  | v, n + 1, a, f, acc, h => by
    rw [rGaps]
    split
    · rename_i hf
      subst hf
      have ha := h rfl
      cases hr : (rNum v a none).2.2 with
      | none =>
        obtain ⟨h1, h2⟩ := rNum_step v a hr
        have := rGaps_len v n (rNum v a none).2.1 none (acc ++ [((rNum v a none).1 : Int)]) (fun _ => h2)
        simp at this
        omega
      | some e =>
        have : rGaps v n (rNum v a none).2.1 (some e) (acc ++ [((rNum v a none).1 : Int)]) = (acc ++ [((rNum v a none).1 : Int)], some e) := by
          cases n <;> simp [rGaps]
        rw [this]; simp
    · simp; omega
def tot (l : List Row) : Nat := (l.map fun r => r.val.length + 1).sum
theorem tot_take {l : List Row} {i : Nat} {r : Row} (h : l[i]? = some r) : tot (l.take (i + 1)) = tot (l.take i) + r.val.length + 1 := by
  rw [take_snoc h]; simp [tot]; omega
theorem tot_le (l : List Row) (i : Nat) : tot (l.take i) ≤ tot l := by
  have : tot l = tot (l.take i) + tot (l.drop i) := by
    conv => lhs; rw [← List.take_append_drop i l]
    simp only [tot, List.map_append, List.sum_append]
  omega
theorem tot_len : ∀ l : List Row, l.length ≤ tot l
  | [] => by simp [tot]
  | r :: l => by have := tot_len l; simp [tot] at this ⊢; omega
theorem tot_mem {l : List Row} {r : Row} (h : r ∈ l) : r.val.length + 1 ≤ tot l := by
  obtain ⟨i, hi, rfl⟩ := List.getElem_of_mem h
  have h1 := tot_take (l := l) (i := i) (r := l[i]) (by simp [hi])
  have h2 := tot_le l (i + 1)
  omega
structure DFit (d : D3) (n m : Nat) : Prop where
  name : d.x.name.length ≤ 1000
  topic : d.x.topic.length ≤ 1000
  want : d.x.want.length ≤ 1000
  note : d.x.note.length ≤ 1000
  acks : d.x.acks = []
  gaps : d.gaps.length ≤ n
  queue : d.x.queue.length ≤ m
  msgs : ∀ m ∈ d.x.queue, m.body.length ≤ 1000 ∧ m.attr.length ≤ 1000
theorem rMsg_fit (seq : Int) (v : List UInt8) (a : Nat) (f : Option Nat) : (rMsg seq v a f).1.body.length ≤ 1000 ∧ (rMsg seq v a f).1.attr.length ≤ 1000 := by
  have h1 := rText_len v a f 60
  have h2 := rText_len v (rText v a f 60).2.1 (rText v a f 60).2.2 30
  simp only [rMsg]
  omega
theorem dRow_fit {d : D3} {n m : Nat} (h : DFit d n m) (r : Row) : DFit (dRow d r).1 (n + r.val.length + 1) (m + 1) := by
  have hg := h.gaps
  have hq := h.queue
  unfold dRow
  dsimp only
  split
  · refine ⟨h.name, h.topic, h.want, h.note, h.acks, ?_, by show d.x.queue.length ≤ m + 1; omega, h.msgs⟩
    have := rGaps_len r.val (rNum r.val 0 none).1 (rNum r.val 0 none).2.1 (rNum r.val 0 none).2.2 d.gaps (fun hf => (rNum_step r.val 0 hf).2)
    show (rGaps _ _ _ _ _).1.length ≤ _
    omega
  · split
    · refine ⟨h.name, h.topic, h.want, h.note, h.acks, by show d.gaps.length ≤ _; omega, by show (d.x.queue ++ _).length ≤ _; simp; omega, ?_⟩
      intro y hy
      rcases List.mem_append.1 hy with hy | hy
      · exact h.msgs y hy
      · obtain rfl := List.mem_singleton.1 hy; exact rMsg_fit _ _ _ _
    · split
      · refine ⟨?_, ?_, ?_, ?_, h.acks, by show d.gaps.length ≤ _; omega, by show d.x.queue.length ≤ m + 1; omega, h.msgs⟩
        all_goals
          simp only [rSub]
          refine Nat.le_trans (rText_len _ _ _ _) (by decide)
      · exact ⟨h.name, h.topic, h.want, h.note, h.acks, by show d.gaps.length ≤ _; omega, by show d.x.queue.length ≤ m + 1; omega, h.msgs⟩
theorem dRows_fit (l : List Row) : ∀ i, i ≤ l.length → DFit (dRows l i) (tot (l.take i)) i
  | 0, _ => ⟨by simp [dRows, sub0], by simp [dRows, sub0], by simp [dRows, sub0], by simp [dRows, sub0], rfl, by simp [dRows], by simp [dRows, sub0], by simp [dRows, sub0]⟩
  | i + 1, hi => by
    have h := dRows_fit l i (by omega)
    have hg : l[i]? = some l[i] := by simp [show i < l.length by omega]
    have h2 := dRow_fit h l[i]
    rw [dRows, tot_take hg, hg]
    exact ⟨h2.name, h2.topic, h2.want, h2.note, h2.acks, h2.gaps, h2.queue, h2.msgs⟩
theorem runUp_len : ∀ (l : List Int) (a : Int), (runUp a l).length = l.length
  | [], _ => rfl
  | g :: l, a => by simp [runUp, runUp_len l]
theorem dSub_fits (l : List Row) (h : tot l ≤ 100000) : Fits (dSub l) := by
  have hf := dRows_fit l l.length (Nat.le_refl _)
  have hl := tot_len l
  have ht := hf.gaps
  rw [List.take_length] at ht
  have hq := hf.queue
  exact ⟨hf.name, hf.topic, hf.want, hf.note, by show (runUp _ _).length ≤ _; rw [runUp_len]; omega, by show (dRows l l.length).x.queue.length ≤ _; omega, hf.msgs⟩
end Go.Proofs.YtkbmkhhcppfcnaaDoor
end
section
set_option linter.unusedVariables false
set_option linter.unusedSimpArgs false
namespace Go.Proofs.YtkbmkhhcppfcnaaDoor
open Go.Al
theorem ltS_nil (l : List UInt8) : ltS l [] = false := by cases l <;> rfl
theorem ltS_cons (a b : UInt8) (l m : List UInt8) : ltS (a :: l) (b :: m) = (decide (a < b) || (a == b && ltS l m)) := rfl
theorem ltS_irr : ∀ l : List UInt8, ltS l l = false
  | [] => rfl
  | a :: l => by rw [ltS_cons, ltS_irr l]; simp
theorem ltS_app : ∀ (p l m : List UInt8), ltS (p ++ l) (p ++ m) = ltS l m
  | [], l, m => rfl
  | a :: p, l, m => by rw [List.cons_append, List.cons_append, ltS_cons, ltS_app p]; simp
theorem ltS_same : ∀ (p q l m : List UInt8), p.length = q.length → ltS p q = true → ltS (p ++ l) (q ++ m) = true
  | [], [], l, m, _, h => by cases h
  | a :: p, b :: q, l, m, hl, h => by
    rw [ltS_cons] at h
    rw [List.cons_append, List.cons_append, ltS_cons]
    simp only [Bool.or_eq_true, Bool.and_eq_true] at h ⊢
    exact h.imp id fun h => ⟨h.1, ltS_same p q l m (by simpa using hl) h.2⟩
theorem ltS_asymm : ∀ (l m : List UInt8), ltS l m = true → ltS m l = false
  | l, [], h => by rw [ltS_nil] at h; cases h
  | [], b :: m, _ => rfl
  | a :: l, b :: m, h => by
    rw [ltS_cons] at h ⊢
    simp only [Bool.or_eq_true, Bool.and_eq_true, decide_eq_true_eq, beq_iff_eq] at h
    simp only [Bool.or_eq_false_iff, Bool.and_eq_false_iff, decide_eq_false_iff_not]
    rcases h with h | ⟨rfl, h⟩
    · have hn : a.toNat < b.toNat := h
      refine ⟨fun h' => ?_, .inl ?_⟩
      · have : b.toNat < a.toNat := h'
        omega
      · rw [beq_eq_false_iff_ne]
        rintro rfl
        omega
    · exact ⟨fun h' => by have : a.toNat < a.toNat := h'; omega, .inr (ltS_asymm l m h)⟩
theorem ltS_trans : ∀ (l m n : List UInt8), ltS l m = true → ltS m n = true → ltS l n = true
  | l, m, [], _, h => by rw [ltS_nil] at h; cases h
  | l, [], _ :: _, h, _ => by rw [ltS_nil] at h; cases h
  | [], _ :: _, _ :: _, _, _ => rfl
  | a :: l, b :: m, c :: n, h, k => by
    rw [ltS_cons] at h k ⊢
    simp only [Bool.or_eq_true, Bool.and_eq_true, decide_eq_true_eq, beq_iff_eq] at h k ⊢
    rcases h with h | ⟨rfl, h⟩
    · rcases k with k | ⟨rfl, k⟩
      · left
        have h1 : a.toNat < b.toNat := h
        have h2 : b.toNat < c.toNat := k
        show a.toNat < c.toNat
        omega
      · exact .inl h
    · rcases k with k | ⟨rfl, k⟩
      · exact .inl k
      · exact .inr ⟨rfl, ltS_trans l m n h k⟩
theorem ltS_not_le {a b : List UInt8} (h : ltS a b = true) : (ltS b a || decide (b = a)) = false := by
  rw [ltS_asymm a b h, Bool.false_or, decide_eq_false_iff_not]
  rintro rfl
  rw [ltS_irr] at h; cases h
theorem gtS_of {a b : List UInt8} (h : ltS b a = true) : gtS a b = true := by
  rw [gtS, ltS_not_le h]; rfl
theorem dN_lt : ∀ (k a b : Nat), a < b → b < 10 ^ k → ltS (dN k a) (dN k b) = true
  | 0, a, b, h, hb => by simp at hb; omega
  | k + 1, a, b, h, hb => by
    rw [dN, dN]
    have hb' : b / 10 < 10 ^ k := by rw [Nat.pow_succ] at hb; omega
    by_cases hq : a / 10 < b / 10
    · exact ltS_same _ _ _ _ (by rw [dN_length, dN_length]) (dN_lt k _ _ hq hb')
    · have he : a / 10 = b / 10 := by omega
      rw [he, ltS_app, ltS_cons]
      have h1 : (dig a).toNat = 48 + a % 10 := by rw [dig, byte_val (by omega)]
      have h2 : (dig b).toNat = 48 + b % 10 := by rw [dig, byte_val (by omega)]
      have : dig a < dig b := by show (dig a).toNat < (dig b).toNat; omega
      simp [this]
theorem cl_mono {a b : Int} (h0 : 0 ≤ a) (h : a < b) (hb : b ≤ 9999999999) : cl a < cl b := by unfold cl; omega
theorem rkey_seq (v : Nat) (t : UInt8) (id : Int) {a b : Int} (h0 : 0 ≤ a) (h : a < b) (hb : b ≤ 9999999999) : ltS (rkey v t id a) (rkey v t id b) = true := by
  rw [rkey, rkey, ltS_app]
  exact dN_lt 10 _ _ (cl_mono h0 h hb) (cl_lt b)
theorem rkey_table (v : Nat) {t u : UInt8} (h : t.toNat < u.toNat) (id a b : Int) : ltS (rkey v t id a) (rkey v u id b) = true := by
  show ltS (UInt8.ofNat (48 + v) :: t :: (dN 10 (cl id) ++ dN 10 (cl a))) (UInt8.ofNat (48 + v) :: u :: (dN 10 (cl id) ++ dN 10 (cl b))) = true
  rw [ltS_cons, ltS_cons]
  have : t < u := h
  simp [this]
def Up (l : List Row) : Prop := l.Pairwise fun a b => ltS a.key b.key = true
theorem Up.get {l : List Row} (h : Up l) {i : Nat} {a b : Row} (ha : l[i]? = some a) (hb : l[i + 1]? = some b) : ltS a.key b.key = true := by
  obtain ⟨h1, rfl⟩ := List.getElem?_eq_some_iff.1 ha
  obtain ⟨h2, rfl⟩ := List.getElem?_eq_some_iff.1 hb
  exact List.pairwise_iff_getElem.1 h i (i + 1) h1 h2 (by omega)
theorem rise_rows (v : Nat) (t : UInt8) (id : Int) (f : Msg → List UInt8) : ∀ (q : List Msg) (lo : Int), 0 ≤ lo → Rise lo (q.map Msg.seq) → (∀ m ∈ q, m.seq ≤ 9999999999) → Up (q.map fun m => ⟨rkey v t id m.seq, f m⟩)
  | [], _, _, _, _ => .nil
  | m :: q, lo, h0, h, hh => by
    have h1 : lo < m.seq := h.1
    refine .cons ?_ (rise_rows v t id f q m.seq (by omega) h.2 fun x hx => hh x (by simp [hx]))
    intro r hr
    obtain ⟨x, hx, rfl⟩ := List.mem_map.1 hr
    have : m.seq < x.seq := h.2.lt _ (List.mem_map.2 ⟨x, hx, rfl⟩)
    exact rkey_seq v t id (by omega) this (hh x (by simp [hx]))
theorem enc3_up {id clock next : Nat} {x : Sub} (h : Grown id clock next x) (hn : next ≤ 9999999999) : Up (enc3 x) := by
  rw [enc3, Up, List.pairwise_append, List.pairwise_append]
  refine ⟨⟨?_, ?_, ?_⟩, .cons (by simp) .nil, ?_⟩
  · split
    · exact .nil
    · exact .cons (by simp) .nil
  · exact rise_rows 3 113 x.id msgB x.queue x.floor h.floor.1 h.qrise fun m hm => by have := h.qhigh m hm; omega
  · intro a ha b hb
    obtain ⟨m, hm, rfl⟩ := List.mem_map.1 hb
    split at ha
    · simp at ha
    · obtain rfl := List.mem_singleton.1 ha
      exact rkey_table 3 (by decide) x.id 0 m.seq
  · intro a ha b hb
    obtain rfl := List.mem_singleton.1 hb
    rcases List.mem_append.1 ha with ha | ha
    · split at ha
      · simp at ha
      · obtain rfl := List.mem_singleton.1 ha
        exact rkey_table 3 (by decide) x.id 0 0
    · obtain ⟨m, hm, rfl⟩ := List.mem_map.1 ha
      exact rkey_table 3 (by decide) x.id m.seq 0
theorem num_len2 {n : Int} (h : n < 16384) : (num n).length ≤ 2 := numB_len 1 _ (by unfold clampN; omega)
theorem num_len1 {n : Int} (h : n < 128) : (num n).length ≤ 1 := numB_len 0 _ (by unfold clampN; omega)
theorem gaps_short : ∀ (l : List Int) (lo : Int) (n : Nat), 0 ≤ lo → Rise lo l → (∀ a ∈ l, a < n) → n ≤ 16384 → (gapsB lo l).length ≤ 2 * l.length
  | [], _, _, _, _, _, _ => by simp [gapsB]
  | a :: l, lo, n, h0, h, hh, hn => by
    have h1 := h.1
    have h2 := hh a (by simp)
    have h3 : w64 (a - lo) = a - lo := Go.IntWalk.i64_in _ (by omega)
    have h4 := num_len2 (n := a - lo) (by omega)
    have h5 := gaps_short l a n (by omega) h.2 (fun x hx => hh x (by simp [hx])) hn
    rw [gapsB, h3]
    simp; omega
theorem topic_short {v : List UInt8} (h : TopicOk v) : v.length ≤ 3 := by rcases h with rfl | rfl | rfl | rfl <;> decide
theorem want_short {v : List UInt8} (h : WantOk v) : v.length ≤ 7 := by rcases h with rfl | rfl | rfl <;> decide
theorem attr_short {c m l : Int} {x : Msg} (h : MsgOk c m l x) : x.attr.length ≤ 3 := by rcases h.attr with e | e | e <;> rw [e] <;> decide
theorem acksB_short {id clock next : Nat} {x : Sub} (h : Grown id clock next x) (hn : next ≤ 16384) : (acksB x).length ≤ 150 := by
  have h1 := num_len1 (n := x.acks.length) (by have := h.nacks; omega)
  have h2 := gaps_short x.acks x.floor next h.floor.1 h.rise h.high hn
  have h3 := h.nacks
  rw [acksB]; simp; omega
theorem msgB_short {c m l : Int} {x : Msg} (h : MsgOk c m l x) : (msgB x).length ≤ 150 := by
  have h1 := txt_len x.body
  have h2 := txt_len x.attr
  have h3 := h.body
  have h4 := attr_short h
  have h5 := num_len x.tries
  have h6 := num_len x.until_
  have h7 := num_len x.prio
  have h8 := num_len (deathN x)
  rw [msgB]; simp; omega
theorem subB_short {id clock next : Nat} {x : Sub} (h : Grown id clock next x) : (subB x).length ≤ 150 := by
  have h1 := txt_len x.name
  have h2 := txt_len x.topic
  have h3 := txt_len x.want
  have h4 := txt_len x.note
  have h5 := num_len x.lease
  have h6 := num_len x.most
  have h7 := num_len x.floor
  have h8 := h.nlen
  have h9 := topic_short h.topic
  have ha := want_short h.want
  have hb := h.note
  rw [subB]; simp; omega
theorem enc3_row {id clock next : Nat} {x : Sub} (h : Grown id clock next x) (hn : next ≤ 16384) {r : Row} (hr : r ∈ enc3 x) : (∃ t seq, (97 ≤ t.toNat ∧ t.toNat ≤ 122) ∧ r.key = rkey 3 t x.id seq) ∧ r.val.length ≤ 150 := by
  rw [enc3] at hr
  rcases List.mem_append.1 hr with hr | hr
  · rcases List.mem_append.1 hr with hr | hr
    · split at hr
      · simp at hr
      · obtain rfl := List.mem_singleton.1 hr
        exact ⟨⟨97, 0, by decide, rfl⟩, acksB_short h hn⟩
    · obtain ⟨m, hm, rfl⟩ := List.mem_map.1 hr
      exact ⟨⟨113, m.seq, by decide, rfl⟩, msgB_short (h.msgs m hm)⟩
  · obtain rfl := List.mem_singleton.1 hr
    exact ⟨⟨115, 0, by decide, rfl⟩, subB_short h⟩
end Go.Proofs.YtkbmkhhcppfcnaaDoor
end
section
set_option linter.unusedVariables false
namespace Go.Proofs.YtkbmkhhcppfcnaaDoor
open Go.Al
def leS (a b : List UInt8) : Bool := ltS a b || decide (a = b)
def upTo (l : List Row) : Nat → Bool
  | 0 => true
  | i + 1 => upTo l i && (decide (i = 0) || !leS ((l[i]?.getD ⟨[], []⟩).key) ((l[i - 1]?.getD ⟨[], []⟩).key))
theorem upTo_false {l : List Row} : ∀ {n i : Nat}, i ≤ n → upTo l i = false → upTo l n = false
  | 0, i, h, e => by
    have : i = 0 := by omega
    subst this; exact e
  | n + 1, i, h, e => by
    by_cases hi : i = n + 1
    · subst hi; exact e
    · rw [upTo, upTo_false (show i ≤ n by omega) e]; rfl
theorem upTo_up {l : List Row} (h : Up l) : ∀ i, i ≤ l.length → upTo l i = true
  | 0, _ => rfl
  | i + 1, hi => by
    rw [upTo, upTo_up h i (by omega)]
    by_cases h0 : i = 0
    · simp [h0]
    · obtain ⟨j, rfl⟩ : ∃ j, i = j + 1 := ⟨i - 1, by omega⟩
      have ga : l[j]? = some (l[j]'(by omega)) := by simp
      have gb : l[j + 1]? = some (l[j + 1]'(by omega)) := by simp
      have := ltS_not_le (h.get ga gb)
      simp only [leS, Nat.add_sub_cancel, ga, gb, Option.getD_some]
      rw [this]; simp
def note2 (x : Sub) : List Row := if x.note = [] then [] else [⟨rkey 2 110 x.id 0, txt x.note⟩]
def ack2 (x : Sub) : List Row := if x.acks = [] then [] else [⟨rkey 2 97 x.id 0, acksB x⟩]
def b2 (id : Int) (m : Msg) : Row := ⟨rkey 2 98 id m.seq, txt m.body⟩
def qB2 (m : Msg) : List UInt8 := txt m.attr ++ (num m.tries ++ (num m.until_ ++ num (deadN m)))
def q2 (id : Int) (m : Msg) : Row := ⟨rkey 2 113 id m.seq, qB2 m⟩
def sB2 (x : Sub) : List UInt8 := txt x.name ++ (txt x.topic ++ (txt x.want ++ (num x.lease ++ (num x.most ++ num x.floor))))
def s2 (x : Sub) : Row := ⟨rkey 2 115 x.id 0, sB2 x⟩
def x2 (id : Int) (m : Msg) : List Row := if m.prio ≠ 0 ∨ m.dead = true then [⟨rkey 2 120 id m.seq, xB m⟩] else []
def enc2 (x : Sub) : List Row := ack2 x ++ x.queue.map (b2 x.id) ++ note2 x ++ x.queue.map (q2 x.id) ++ [s2 x] ++ x.queue.flatMap (x2 x.id)
end Go.Proofs.YtkbmkhhcppfcnaaDoor
end
section
set_option linter.unusedVariables false
set_option linter.unusedSimpArgs false
set_option maxRecDepth 100000
set_option maxHeartbeats 1000000
namespace Go.Proofs.YtkbmkhhcppfcnaaDoor
open Go.Al Go.RowKit
theorem rising2_any (w0 : World) (l : List Row) (tk : Tok) (hl : l.length ≤ 1000000) : CallP Tryd.prog w0 80 [.slc 2 (l.map eRow) tk] (.bool (upTo l l.length)) := by
  refine CallP.x Ty.tok Ty.mixed Tryd.func80 rfl Tryd.ntmps80 rfl (by simp) (by decide +kernel) fun σ => ?_
  (conv => whnf)
  skip
  refine SLoop.by Ty.mixed (fun i => l.length - i) (fun i => [(0, .slc 2 (l.map eRow) .no), (5, .int .i64 l.length), (6, .int .i64 i)]) (fun _ => []) (fun i s => i ≤ l.length ∧ upTo l i = true ∧ s = σ) 0 ⟨?_, BSub.none _, Nat.zero_le _, rfl, rfl⟩ ?_
  · show xWeak [(0, .slc 2 (l.map eRow) .no), (5, .int .i64 l.length), (6, .int .i64 (0 : Nat))] _
    rw [List.length_map]
    repeat (first | exact trivial | refine ⟨by first | trivial | exact Weak.refl _ | exact Weak.tok _ _ _ | exact Weak.of_eq (congrArg (AV.int _) (by omega)) | exact Weak.of_eq (congrArg AV.bool (by fail)) | exact Weak.nils _ _ (.inr rfl), ?_⟩)
  rintro i s ⟨hi, hu, rfl⟩; (conv => whnf)
  skip
  (refine SIf.x Ty.mixed (fun hc => ?_) (fun hc => ?_) <;> (conv => whnf))
  · have hlt : i < l.length := by simp at hc; omega
    have ga : l[i]? = some l[i] := by simp [hlt]
    have hup : upTo l (i + 1) = (upTo l i && (decide (i = 0) || !leS ((l[i]?.getD ⟨[], []⟩).key) ((l[i - 1]?.getD ⟨[], []⟩).key))) := rfl
    by_cases h0 : i = 0
    · subst h0
      have d3 : decide ((0 : Int) < ((0 : Nat) : Int)) = false := rfl
      refine SReg.d [0, 1, 2, 3, 4, 5, 6, 7, 8, 9, 10, 11, 12, 13, 14, 15] [0, 0, 0, 0, 0, 0, 0, 0, 0, 0, 0, 0, 0, 0, 0, 0] (by decide +kernel) ?_; (conv => whnf); (conv => whnf); refine SCond.n (by exact rfl) ?_; (conv => whnf); refine SCond.n (by exact rfl) ?_; (conv => whnf); refine SCond.n (by exact rfl) ?_; (conv => whnf); refine SCond.n (by exact rfl) ?_; (conv => whnf); refine SCond.n (by exact rfl) ?_; (conv => whnf); refine SCond.n (by exact rfl) ?_; (conv => whnf)
      refine SCond.n (by exact rfl) ?_; (conv => whnf); refine SCond.n (by exact rfl) ?_; (conv => whnf); refine SCond.n (by exact rfl) ?_; (conv => whnf); refine SCond.n (by exact rfl) ?_; (conv => whnf); refine SCond.n (by exact rfl) ?_; (conv => whnf); refine SCond.n (by exact rfl) ?_; (conv => whnf); refine SPick.n (by exact rfl) ?_; (conv => whnf); refine SIf.n Ty.mixed (by exact rfl) ?_
      (conv => whnf); refine ⟨_, IntWalk.i64_in _ (by omega), ?_⟩; (conv => whnf)
      exact ⟨0 + 1, by omega, ⟨by repeat (first | exact trivial | refine ⟨by first | trivial | exact Weak.refl _ | exact Weak.tok _ _ _ | exact Weak.of_eq (congrArg (AV.int _) (by omega)) | exact Weak.of_eq (congrArg AV.bool (by fail)) | exact Weak.nils _ _ (.inr rfl), ?_⟩), BSub.none _, by omega, rfl, rfl⟩⟩
    · have d3 : decide ((0 : Int) < (i : Int)) = true := decide_eq_true (by omega)
      have gp : l[((i : Int) - 1).toNat]? = some (l[i - 1]'(by omega)) := by rw [show ((i : Int) - 1).toNat = i - 1 by omega]; simp
      have gp' : l[i - 1]? = some (l[i - 1]'(by omega)) := by simp
      rw [hu, ga, gp', Option.getD_some, Option.getD_some] at hup
      generalize l[i] = x at ga hup
      generalize l[i - 1]'(by omega) = y at gp hup gp'
      refine SReg.d [0, 1, 2, 3, 4, 5, 6, 7, 8, 9, 10, 11, 12, 13, 14, 15] [0, 0, 0, 0, 0, 0, 0, 0, 0, 0, 0, 0, 0, 0, 0, 0] (by decide +kernel) ?_; (conv => whnf); (conv => whnf); refine SCond.y (by assumption) ?_; (conv => whnf); refine SCond.y (by assumption) ?_; (conv => whnf); refine SCond.y (by assumption) ?_; (conv => whnf)
      refine ⟨_, ⟨by first | omega | (simp only [List.length_cons, List.length_append, List.length_nil, List.length_map, length_aBytes, List.length_replicate, List.length_range]; omega) | fail, by first | exact get_map ga | exact get_map gp | fail⟩, ?_⟩
      (conv => whnf); refine SCond.y (by assumption) ?_; (conv => whnf); refine SCond.y (by assumption) ?_; (conv => whnf); refine SCond.y (by assumption) ?_; (conv => whnf); refine SCond.y (by assumption) ?_; (conv => whnf); refine SCond.y (by assumption) ?_; (conv => whnf); refine ⟨_, IntWalk.i64_in _ (by omega), ?_⟩; (conv => whnf); refine SCond.y (by assumption) ?_; (conv => whnf)
      refine ⟨_, ⟨by first | omega | (simp only [List.length_cons, List.length_append, List.length_nil, List.length_map, length_aBytes, List.length_replicate, List.length_range]; omega) | fail, by first | exact get_map ga | exact get_map gp | fail⟩, ?_⟩
      (conv => whnf); refine SCond.y (by assumption) ?_; (conv => whnf); refine SCond.y (by assumption) ?_; (conv => whnf); refine SCond.y (by assumption) ?_; (conv => whnf); refine SPick.y (by assumption) ?_; (conv => whnf)
      (refine SIf.x Ty.mixed (fun hc => ?_) (fun hc => ?_) <;> (conv => whnf))
      · skip
        refine .p (.refl _) ?_
        have : upTo l (i + 1) = false := by rw [hup]; simp only [leS]; rw [hc]; simp [h0]
        rw [upTo_false (show i + 1 ≤ l.length by omega) this]
      · refine ⟨_, IntWalk.i64_in _ (by omega), ?_⟩
        (conv => whnf)
        refine ⟨i + 1, by omega, ⟨by repeat (first | exact trivial | refine ⟨by first | trivial | exact Weak.refl _ | exact Weak.tok _ _ _ | exact Weak.of_eq (congrArg (AV.int _) (by omega)) | exact Weak.of_eq (congrArg AV.bool (by fail)) | exact Weak.nils _ _ (.inr rfl), ?_⟩), BSub.none _, by omega, ?_, rfl⟩⟩
        rw [hup]; simp only [leS]; rw [hc]; simp
  · have hge : i = l.length := by simp at hc; omega
    subst hge
    skip
    exact .p (.refl _) (by rw [hu])
theorem less2_any (w0 : World) (σ : St) (b : Nat) (n was : Int) (hb : σ.box b = some [.int .i64 was]) : CallW Tryd.prog w0 110 [.int .i64 n, .ptr b 0] σ (fun r s => r = .int .i64 (w64 (n - was)) ∧ s = σ.setBox b [.int .i64 n]) := by
  refine CallW.x (B := [(b, [.int .i64 was])]) Ty.tok Ty.mixed Tryd.func110 rfl Tryd.ntmps110 rfl (by simp) (by decide +kernel) ⟨by simpa using hb, by simp⟩ ?_
  (conv => whnf); refine SLoad.on 0 rfl ?_; (conv => whnf); refine SStore.on 0 rfl ?_; (conv => whnf); refine ⟨_, rfl, ?_⟩; (conv => whnf); exact .p (.refl _) rfl
theorem gaps2_p (w0 : World) (fr : Int) (l : List Int) (tk : Tok) (hl : l.length ≤ 100000) : CallP Tryd.prog w0 71 [.int .i64 fr, .slc 1 (l.map (.int .i64)) tk] (.slc 1 (aBytes (num l.length ++ gapsB fr l)) .no) := by
  refine CallP.x Ty.tok Ty.mixed Tryd.func71 rfl Tryd.ntmps71 rfl (by simp) (by decide +kernel) fun σ => ?_
  (conv => whnf); refine SBox.b rfl ?_; (conv => whnf); intro b1 hb1; (conv => whnf)
  refine SCall.c (by exact form2_c (bs := num _) w0 [.n _] trivial (Nat.le_of_ble_eq_true rfl) _ rfl _) (by exact Moves.full _) rfl fun tk1 σ1 hm => ?_
  (conv => whnf)
  have hb0 := gapsB_len l fr
  have hn0 := num_len l.length
  rw [List.length_map]
  refine SLoop.by Ty.mixed (fun (a : Nat × Tok × List UInt8 × Int) => l.length - a.1) (fun (i, tk, acc, la) => [(5, .slc 1 (aBytes acc) tk), (6, .fn (.func 110) [] [.ptr b1 0]), (15, .slc 1 (l.map (.int .i64)) .no), (16, .int .i64 l.length), (17, .int .i64 i)]) (fun (i, tk, acc, la) => [(b1, [.int .i64 la])]) (fun (i, tk, acc, la) s => i ≤ l.length ∧ acc.length ≤ 8 + 8 * i ∧ num l.length ++ gapsB fr l = acc ++ gapsB la (l.drop i) ∧ Moves (σ.setBox b1 [.int .i64 la]) .full s tk) (0, tk1, num l.length, fr) ⟨?_, .refl _, Nat.zero_le _, by omega, by simp, hm⟩ ?_
  · show xWeak [(5, .slc 1 (aBytes (num l.length)) tk1), (6, .fn (.func 110) [] [.ptr b1 0]), (15, .slc 1 (l.map (.int .i64)) .no), (16, .int .i64 l.length), (17, .int .i64 (0 : Nat))] _
    repeat (first | exact trivial | refine ⟨by first | trivial | exact Weak.refl _ | exact Weak.tok _ _ _ | exact Weak.of_eq (congrArg (AV.int _) (by omega)) | exact Weak.of_eq (congrArg AV.bool (by fail)) | exact Weak.nils _ _ (.inr rfl), ?_⟩)
  clear hm; rintro ⟨i, tk, acc, la⟩ s ⟨hi, ha, hg, hm⟩; (conv => whnf)
  skip
  (refine SIf.x Ty.mixed (fun hc => ?_) (fun hc => ?_) <;> (conv => whnf))
  · have hlt : i < l.length := by simp at hc; omega
    have ga : l[i]? = some l[i] := by simp [hlt]
    have hd := gapsB_drop ga la
    generalize l[i] = n at ga hd
    have ga' := get_map (f := AV.int .i64) ga
    have hk := num_len (w64 (n - la))
    have hm' := hm.set b1 [.int .i64 n]
    rw [setBox_setBox] at hm'
    refine ⟨_, ⟨by first | omega | (simp only [List.length_cons, List.length_append, List.length_nil, List.length_map, length_aBytes, List.length_replicate, List.length_range]; omega) | fail, by exact ga'⟩, ?_⟩
    (conv => whnf); refine SCall.b 0 (fun hb => by exact less2_any w0 _ b1 n la (hm.box _ _ setBox_same)) rfl rfl ?_; (conv => whnf); refine SCall.p (by exact form2_t (bs := num _) w0 [.n _] trivial (Nat.le_of_ble_eq_true rfl) _ rfl) ?_; (conv => whnf)
    refine SApp.c rfl rfl (by assumption) (by simp only [length_aBytes]; omega) fun tk1 σ1 hm => ?_
    (conv => whnf); refine ⟨_, IntWalk.i64_in _ (by omega), ?_⟩; (conv => whnf)
    refine ⟨(i + 1, tk1, acc ++ num (w64 (n - la)), n), by show l.length - (i + 1) < l.length - i; omega, ?_, .refl _, by omega, by simp only [List.length_append]; omega, ?_, hm⟩
    · show xWeak [(5, .slc 1 (aBytes (acc ++ num (w64 (n - la)))) tk1), (6, .fn (.func 110) [] [.ptr b1 0]), (15, .slc 1 (l.map (.int .i64)) .no), (16, .int .i64 l.length), (17, .int .i64 (i + 1 : Nat))] _
      rw [aBytes_append]
      repeat (first | exact trivial | refine ⟨by first | trivial | exact Weak.refl _ | exact Weak.tok _ _ _ | exact Weak.of_eq (congrArg (AV.int _) (by omega)) | exact Weak.of_eq (congrArg AV.bool (by fail)) | exact Weak.nils _ _ (.inr rfl), ?_⟩)
    · rw [hg, hd, List.append_assoc]
  · have hge : i = l.length := by simp at hc; omega
    subst hge
    skip
    rw [List.drop_length, gapsB, List.append_nil] at hg
    refine .v (.trans (le_setBox (.refl _) hb1) hm.le) ?_
    rw [hg]
    exact .tok ..
end Go.Proofs.YtkbmkhhcppfcnaaDoor
end
section
set_option linter.unusedVariables false
set_option linter.unusedSimpArgs false
set_option maxRecDepth 100000
set_option maxHeartbeats 1000000
namespace Go.Proofs.YtkbmkhhcppfcnaaDoor
open Go.Al Go.RowKit
theorem lay2_any (w0 : World) (hL : Laid w0) (x : Sub) (t : UInt8) (seq : Int) (v : List UInt8) (tv : Tok) (rows : List Row) (bo : Nat) (tk : Tok) (σ : St) (hb : σ.box bo = some [.slc 2 (rows.map eRow) tk]) (hr : Room σ tk) (hn : rows.length ≤ 10000000) :
    CallW Tryd.prog w0 69 [.int .u8 t.toNat, .int .i64 seq, .slc 1 (aBytes v) tv, .ptr bo 0, .vp (eSub x)] σ (fun r s => r = .tup [] ∧ ∃ tk', Moves (σ.setBox bo [.slc 2 ((rows ++ [(⟨rkey 2 t x.id seq, v⟩ : Row)]).map eRow) tk']) tk s tk') := by
  refine CallW.weak1 [_, _] [_, _] (.tok 1 (aBytes v) tv) ?_
  refine CallW.x (B := [(bo, [.slc 2 (rows.map eRow) tk])]) Ty.tok Ty.mixed Tryd.func69 rfl Tryd.ntmps69 rfl (by simp) (by decide +kernel) ⟨by simpa using hb, by simp⟩ ?_
  (conv => whnf); refine SReg.d [1, 2, 4, 6, 0, 3, 5, 7, 8, 9, 10] [1, 0, 0, 1, 0, 0, 0, 0, 0, 2, 2] (by decide +kernel) ?_; (conv => whnf); (conv => whnf); refine SLoad.on 0 rfl ?_; (conv => whnf); refine SCall.p (by exact keyS_any w0 hL 2 (by omega) t _ _) ?_; (conv => whnf)
  refine SApp.c rfl rfl (by exact Moves.refl hr) (by simp only [length_aBytes, List.length_append, List.length_cons, List.length_nil, List.length_map, List.length_range]; omega) fun tk1 σ1 hm => ?_
  (conv => whnf); refine SStore.on 0 rfl ?_; (conv => whnf); refine .w ⟨rfl, tk1, ?_⟩
  rw [List.map_append]
  exact hm.set bo _
def nilOr : List UInt8 → AV
  | [] => .nils
  | c :: r => .slc 1 (aBytes (c :: r)) .no
def rowsOf (x : Sub) (t : UInt8) (f : Msg → List UInt8) (l : List Msg) : List Row := l.flatMap fun m => if f m = [] then [] else [⟨rkey 2 t x.id m.seq, f m⟩]
theorem rowsOf_len (x : Sub) (t : UInt8) (f : Msg → List UInt8) : ∀ l : List Msg, (rowsOf x t f l).length ≤ l.length
  | [] => by simp [rowsOf]
  | m :: l => by
    have := rowsOf_len x t f l
    have h1 : (if f m = [] then [] else [(⟨rkey 2 t x.id m.seq, f m⟩ : Row)]).length ≤ 1 := by split <;> simp
    simp only [rowsOf, List.flatMap_cons, List.length_append, List.length_cons] at this ⊢
    omega
theorem each2_any (w0 : World) (hL : Laid w0) (x : Sub) (hx : x.queue.length ≤ 100000) (t : UInt8) (g : FuncId) (f : Msg → List UInt8) [hf : OwnF Tryd.prog g] (hg : ∀ m ∈ x.queue, CallP Tryd.prog w0 g [eMsg m] (nilOr (f m))) (rows : List Row) (bo b4 : Nat) (tk : Tok) (σ : St)
    (hb : σ.box bo = some [.slc 2 (rows.map eRow) tk]) (h4 : σ.box b4 = some [.fn (.func 69) [] [.ptr bo 0, .vp (eSub x)]]) (hne : bo ≠ b4) (hr : Room σ tk) (hn : rows.length ≤ 1000000) :
    CallW Tryd.prog w0 70 [.int .u8 t.toNat, .fn (.func g) [] [], .vp (eSub x), .ptr b4 0] σ (fun r s => r = .tup [] ∧ ∃ tk', Moves (σ.setBox bo [.slc 2 ((rows ++ rowsOf x t f x.queue).map eRow) tk']) tk s tk') := by
  refine CallW.x (B := [(bo, [.slc 2 (rows.map eRow) tk]), (b4, [.fn (.func 69) [] [.ptr bo 0, .vp (eSub x)]])]) Ty.tok Ty.mixed Tryd.func70 rfl Tryd.ntmps70 rfl (by simp) (by decide +kernel) ⟨by simp [hb, h4], by simp [hne]⟩ ?_
  (conv => whnf)
  skip
  refine SLoop.by Ty.mixed (fun (a : Nat × Tok) => x.queue.length - a.1) (fun (i, tk) => [(0, .int .u8 t.toNat), (1, .fn (.func g) [] []), (2, .vp (eSub x)), (3, .ptr b4 0), (10, .slc 8 (x.queue.map eMsg) .no), (11, .int .i64 x.queue.length), (12, .int .i64 i)]) (fun (i, tk) => [(bo, [.slc 2 ((rows ++ rowsOf x t f (x.queue.take i)).map eRow) tk]), (b4, [.fn (.func 69) [] [.ptr bo 0, .vp (eSub x)]])])
    (fun (i, tk') s => i ≤ x.queue.length ∧ Moves (σ.setBox bo [.slc 2 ((rows ++ rowsOf x t f (x.queue.take i)).map eRow) tk']) tk s tk') (0, tk) ⟨?_, ?_, Nat.zero_le _, ?_⟩ ?_
  · show xWeak [(0, .int .u8 t.toNat), (1, .fn (.func g) [] []), (2, .vp (eSub x)), (3, .ptr b4 0), (10, .slc 8 (x.queue.map eMsg) .no), (11, .int .i64 x.queue.length), (12, .int .i64 (0 : Nat))] _
    rw [List.length_map]
    repeat (first | exact trivial | refine ⟨by first | trivial | exact Weak.refl _ | exact Weak.tok _ _ _ | exact Weak.of_eq (congrArg (AV.int _) (by omega)) | exact Weak.of_eq (congrArg AV.bool (by fail)) | exact Weak.nils _ _ (.inr rfl), ?_⟩)
  · show BSub [(bo, [.slc 2 ((rows ++ rowsOf x t f (x.queue.take 0)).map eRow) tk]), (b4, _)] _
    rw [List.take_zero, rowsOf, List.flatMap_nil, List.append_nil]
    exact .refl _
  · show Moves (σ.setBox bo [.slc 2 ((rows ++ rowsOf x t f (x.queue.take 0)).map eRow) tk]) tk σ tk
    rw [List.take_zero, rowsOf, List.flatMap_nil, List.append_nil, setBox_self hb]
    exact .refl hr
  rintro ⟨i, tk'⟩ s ⟨hi, hm0⟩; (conv => whnf)
  skip
  (refine SIf.x Ty.mixed (fun hc => ?_) (fun hc => ?_) <;> (conv => whnf))
  · have hlt : i < x.queue.length := by simp at hc; omega
    have ga : x.queue[i]? = some x.queue[i] := by simp [hlt]
    have hd : rowsOf x t f (x.queue.take (i + 1)) = rowsOf x t f (x.queue.take i) ++ (if f x.queue[i] = [] then [] else [⟨rkey 2 t x.id x.queue[i].seq, f x.queue[i]⟩]) := flat_take_snoc _ ga
    have hgm := hg _ (List.getElem_mem hlt)
    have hl0 := rowsOf_len x t f (x.queue.take i)
    have hl1 := List.length_take_le i x.queue
    generalize x.queue[i] = m at ga hd hgm
    have ga' := get_map (f := eMsg) ga
    cases hv : f m with
    | nil =>
      rw [hv] at hgm hd
      refine ⟨_, ⟨by first | omega | (simp only [List.length_cons, List.length_append, List.length_nil, List.length_map, length_aBytes, List.length_replicate, List.length_range]; omega) | fail, by exact ga'⟩, ?_⟩
      (conv => whnf); intro b1 hb1; (conv => whnf); refine SStore.on 0 rfl ?_; (conv => whnf); refine SLoad.on 0 rfl ?_; (conv => whnf); refine SCall.p (by exact hgm) ?_; (conv => whnf); refine SIf.n Ty.mixed (by exact rfl) ?_; (conv => whnf); refine ⟨_, IntWalk.i64_in _ (by omega), ?_⟩; (conv => whnf)
      refine ⟨(i + 1, tk'), by show x.queue.length - (i + 1) < x.queue.length - i; omega, by repeat (first | exact trivial | refine ⟨by first | trivial | exact Weak.refl _ | exact Weak.tok _ _ _ | exact Weak.of_eq (congrArg (AV.int _) (by omega)) | exact Weak.of_eq (congrArg AV.bool (by fail)) | exact Weak.nils _ _ (.inr rfl), ?_⟩), ?_, by omega, ?_⟩
      · refine .drop ?_
        show BSub [(bo, [.slc 2 ((rows ++ rowsOf x t f (x.queue.take (i + 1))).map eRow) tk']), (b4, _)] _
        rw [hd, if_pos rfl, List.append_nil]
        exact .refl _
      · show Moves (σ.setBox bo [.slc 2 ((rows ++ rowsOf x t f (x.queue.take (i + 1))).map eRow) tk']) tk _ tk'
        rw [hd, if_pos rfl, List.append_nil]
        exact hm0.new2 (by assumption)
    | cons c r =>
      rw [hv] at hgm hd
      refine ⟨_, ⟨by first | omega | (simp only [List.length_cons, List.length_append, List.length_nil, List.length_map, length_aBytes, List.length_replicate, List.length_range]; omega) | fail, by exact ga'⟩, ?_⟩
      (conv => whnf); intro b1 hb1; (conv => whnf); refine SStore.on 0 rfl ?_; (conv => whnf); refine SLoad.on 0 rfl ?_; (conv => whnf); refine SCall.p (by exact hgm) ?_; (conv => whnf); refine SIf.y Ty.mixed (by exact rfl) ?_; (conv => whnf); refine SLoad.on 2 rfl ?_; (conv => whnf); refine SLoad.on 0 rfl ?_; (conv => whnf)
      refine SCall.o 1 (fun hb => by exact lay2_any w0 hL x t _ _ _ _ bo _ _ (by assumption) ((hm0.new2 (by assumption)).room) (by simp only [List.length_append]; omega)) rfl rfl fun tk1 σ1 hn1 => ?_
      (conv => whnf); refine ⟨_, IntWalk.i64_in _ (by omega), ?_⟩; (conv => whnf)
      have e2 : rows ++ rowsOf x t f (x.queue.take (i + 1)) = (rows ++ rowsOf x t f (x.queue.take i)) ++ [⟨rkey 2 t x.id m.seq, c :: r⟩] := by rw [hd, if_neg (by simp), ← List.append_assoc]
      refine ⟨(i + 1, tk1), by show x.queue.length - (i + 1) < x.queue.length - i; omega, by repeat (first | exact trivial | refine ⟨by first | trivial | exact Weak.refl _ | exact Weak.tok _ _ _ | exact Weak.of_eq (congrArg (AV.int _) (by omega)) | exact Weak.of_eq (congrArg AV.bool (by fail)) | exact Weak.nils _ _ (.inr rfl), ?_⟩), ?_, by omega, ?_⟩
      · refine .drop ?_
        show BSub [(bo, [.slc 2 ((rows ++ rowsOf x t f (x.queue.take (i + 1))).map eRow) tk1]), (b4, _)] _
        rw [e2]
        exact .refl _
      · show Moves (σ.setBox bo [.slc 2 ((rows ++ rowsOf x t f (x.queue.take (i + 1))).map eRow) tk1]) tk _ tk1
        rw [e2]
        exact (hm0.new2 (by assumption)).chain hn1
  · have hge : i = x.queue.length := by simp at hc; omega
    subst hge
    skip
    rw [List.take_length] at hm0
    exact .w ⟨rfl, tk', hm0⟩
end Go.Proofs.YtkbmkhhcppfcnaaDoor
end
section
set_option linter.unusedVariables false
set_option linter.unusedSimpArgs false
set_option maxRecDepth 100000
set_option maxHeartbeats 1000000
namespace Go.Proofs.YtkbmkhhcppfcnaaDoor
open Go.Al Go.RowKit
theorem nilOr_ne {l : List UInt8} (h : l ≠ []) : nilOr l = .slc 1 (aBytes l) .no := by
  cases l with
  | nil => exact absurd rfl h
  | cons c r => rfl
theorem num_ne (n : Int) : num n ≠ [] := by obtain ⟨c, r, h⟩ := num_pos n; rw [h]; simp
theorem txt_ne (s : List UInt8) : txt s ≠ [] := by obtain ⟨c, r, h⟩ := f1_pos (.s s); simp only [f1] at h; rw [h]; simp
def xN (m : Msg) : List UInt8 := if m.prio ≠ 0 ∨ m.dead = true then xB m else []
theorem qB2_ne (m : Msg) : qB2 m ≠ [] := by unfold qB2; simp [txt_ne]
theorem xB_ne (m : Msg) : xB m ≠ [] := by unfold xB; simp [num_ne]
theorem of3_any (w0 : World) (m : Msg) (h : m.body.length ≤ 1000) : CallP Tryd.prog w0 72 [eMsg m] (nilOr (txt m.body)) := by
  refine CallP.x Ty.tok Ty.mixed Tryd.func72 rfl Tryd.ntmps72 rfl (by simp) (by decide +kernel) fun σ => ?_
  (conv => whnf); refine SBox.f ?_; (conv => whnf); refine SCall.p (by exact form2_t (bs := txt _) w0 [.s _] ⟨h, trivial⟩ (Nat.le_of_ble_eq_true rfl) _ rfl) ?_; (conv => whnf); exact .p (.refl _) (nilOr_ne (txt_ne _))
theorem of4_any (w0 : World) (m : Msg) (h : m.attr.length ≤ 1000) : CallP Tryd.prog w0 74 [eMsg m] (nilOr (qB2 m)) := by
  refine CallP.x Ty.tok Ty.mixed Tryd.func74 rfl Tryd.ntmps74 rfl (by simp) (by decide +kernel) fun σ => ?_
  (conv => whnf); refine SBox.f ?_; (conv => whnf); refine SReg.d [0, 1, 2, 3, 4, 5, 6, 7, 8, 9, 10, 11, 12, 13, 14, 15] [0, 0, 0, 0, 0, 0, 0, 0, 0, 0, 0, 0, 0, 0, 0, 0] (by decide +kernel) ?_; (conv => whnf); (conv => whnf); refine SCall.p (by exact flag2_any w0 _) ?_; (conv => whnf); refine SCall.p (by exact form2_t (bs := qB2 m) w0 [.s _, .n _, .n _, .n _] ⟨h, trivial⟩ (Nat.le_of_ble_eq_true rfl) _ rfl) ?_; (conv => whnf); exact .p (.refl _) (nilOr_ne (qB2_ne _))
theorem of5_any (w0 : World) (m : Msg) : CallP Tryd.prog w0 76 [eMsg m] (nilOr (xN m)) := by
  refine CallP.x Ty.tok Ty.mixed Tryd.func76 rfl Tryd.ntmps76 rfl (by simp) (by decide +kernel) fun σ => ?_
  (conv => whnf); refine SBox.f ?_; (conv => whnf)
  (refine SCond.mk (fun hc => ?_) (fun hc => ?_) <;> (conv => whnf))
  refine SCond.y (by assumption) ?_; (conv => whnf); refine SCond.y (by assumption) ?_; (conv => whnf); refine SPick.y (by assumption) ?_; (conv => whnf)
  (refine SIf.x Ty.mixed (fun hc => ?_) (fun hc => ?_) <;> (conv => whnf))
  rotate_left; refine SReg.d [0, 1, 2, 3, 4, 5, 6, 7, 8] [0, 0, 0, 0, 0, 0, 0, 0, 0] (by decide +kernel) ?_; (conv => whnf); (conv => whnf); refine SCall.p (by exact death2_any w0 _) ?_; (conv => whnf); refine SCall.p (by exact form2_t (bs := xB m) w0 [.n _, .n _] trivial (Nat.le_of_ble_eq_true rfl) _ rfl) ?_; (conv => whnf); rotate_left; refine SCond.n (by assumption) ?_; (conv => whnf); refine SCond.n (by assumption) ?_
  (conv => whnf); refine SPick.n (by assumption) ?_; (conv => whnf); refine SIf.n Ty.mixed (by exact rfl) ?_; (conv => whnf); refine SReg.d [0, 1, 2, 3, 4, 5, 6, 7, 8] [0, 0, 0, 0, 0, 0, 0, 0, 0] (by decide +kernel) ?_; (conv => whnf); (conv => whnf); refine SCall.p (by exact death2_any w0 _) ?_; (conv => whnf); refine SCall.p (by exact form2_t (bs := xB m) w0 [.n _, .n _] trivial (Nat.le_of_ble_eq_true rfl) _ rfl) ?_
  (conv => whnf); rotate_left
  all_goals refine .p (.refl _) ?_
  · have : ¬ (m.prio ≠ 0 ∨ m.dead = true) := by simp_all
    rw [xN, if_neg this]; rfl
  · have : m.prio ≠ 0 ∨ m.dead = true := by simp_all
    rw [xN, if_pos this]; exact nilOr_ne (xB_ne m)
  · have : m.prio ≠ 0 ∨ m.dead = true := by simp_all
    rw [xN, if_pos this]; exact nilOr_ne (xB_ne m)
theorem rowsOf_b (x : Sub) (l : List Msg) : rowsOf x 98 (fun m => txt m.body) l = l.map (b2 x.id) := by
  unfold rowsOf
  induction l with
  | nil => rfl
  | cons m l ih => rw [List.flatMap_cons, ih, if_neg (txt_ne _)]; rfl
theorem rowsOf_q (x : Sub) (l : List Msg) : rowsOf x 113 qB2 l = l.map (q2 x.id) := by
  unfold rowsOf
  induction l with
  | nil => rfl
  | cons m l ih => rw [List.flatMap_cons, ih, if_neg (qB2_ne _)]; rfl
theorem rowsOf_x (x : Sub) (l : List Msg) : rowsOf x 120 xN l = l.flatMap (x2 x.id) := by
  unfold rowsOf
  induction l with
  | nil => rfl
  | cons m l ih =>
    rw [List.flatMap_cons, ih, List.flatMap_cons]
    congr 1
    unfold xN x2
    by_cases h : m.prio ≠ 0 ∨ m.dead = true
    · rw [if_pos h, if_neg (xB_ne m), if_pos h]
    · rw [if_neg h, if_pos rfl, if_neg h]
end Go.Proofs.YtkbmkhhcppfcnaaDoor
end
section
set_option linter.unusedVariables false
set_option linter.unusedSimpArgs false
set_option maxRecDepth 100000
set_option maxHeartbeats 1000000
namespace Go.Proofs.YtkbmkhhcppfcnaaDoor
open Go.Al Go.RowKit
theorem ack2_len (x : Sub) : (ack2 x).length ≤ 1 := by unfold ack2; split <;> simp
theorem note2_len (x : Sub) : (note2 x).length ≤ 1 := by unfold note2; split <;> simp
theorem enc2_p (w0 : World) (hL : Laid w0) (x : Sub) (hx : Fits x) : CallP Tryd.prog w0 29 [eSub x] (eRows (enc2 x)) := by
  refine CallP.x Ty.tok Ty.mixed Tryd.func29 rfl Tryd.ntmps29 rfl (by simp) (by decide +kernel) fun σ => ?_
  obtain ⟨hs1, hs2, hs3, hs4⟩ := And.intro hx.name (And.intro hx.topic (And.intro hx.want hx.note))
  have hna := hx.nacks
  have hnq := hx.nqueue
  (conv => whnf); refine SBox.f ?_; (conv => whnf)
  refine ⟨true, fun bo hbo => ?_⟩
  (conv => whnf); intro b4 hb4; (conv => whnf); refine SStore.on 0 rfl ?_; (conv => whnf)
  have hne : bo ≠ b4 := fun e => by subst e; rw [setBox_same] at hb4; cases hb4
  have hm : Moves (((σ.setBox b4 [.fn (.func 69) [] [.ptr bo 0, .vp (eSub x)]])).setBox bo [.slc 2 [] .full]) .full (((σ.setBox bo [.slc 2 [] .full]).setBox b4 [.nilfn]).setBox b4 [.fn (.func 69) [] [.ptr bo 0, .vp (eSub x)]]) .full := by
    rw [setBox_setBox, setBox_comm hne]
    exact .full _
  have hb4' : σ.box b4 = none := by rwa [setBox_ne (Ne.symm hne)] at hb4
  generalize hτ : (σ.setBox b4 [.fn (.func 69) [] [.ptr bo 0, .vp (eSub x)]]) = τ at hm
  have hle : St.Le σ τ := by rw [← hτ]; exact le_setBox (.refl _) hb4'
  have hb1 : τ.box bo = none := by rw [← hτ, setBox_ne hne]; exact hbo
  have hm : Moves (τ.setBox bo [.slc 2 (([] : List Row).map eRow) .full]) .full (((σ.setBox bo [.slc 2 [] .full]).setBox b4 [.nilfn]).setBox b4 [.fn (.func 69) [] [.ptr bo 0, .vp (eSub x)]]) .full := hm
  have kb4 : ∀ rows tk s, Moves (τ.setBox bo [.slc 2 (List.map eRow rows) tk]) .full s tk → s.box b4 = some [.fn (.func 69) [] [.ptr bo 0, .vp (eSub x)]] := fun rows tk s h => h.box _ _ (by rw [setBox_ne (Ne.symm hne), ← hτ]; exact setBox_same)
  have kbo : ∀ rows tk s, Moves (τ.setBox bo [.slc 2 (List.map eRow rows) tk]) .full s tk → s.box bo = some [.slc 2 (List.map eRow rows) tk] := fun rows tk s h => h.box _ _ setBox_same
  have la := ack2_len x
  have lb := rowsOf_len x 98 (fun m => txt m.body) x.queue
  have ln := note2_len x
  have lq := rowsOf_len x 113 qB2 x.queue
  have lx := rowsOf_len x 120 xN x.queue
  refine SIf.meet Ty.mixed (fun tk => [(1, .vp (eSub x)), (3, .ptr bo 0), (4, .ptr b4 0), (5, .fn (.func 70) [] [.vp (eSub x), .ptr b4 0])]) (fun tk => [(b4, [.fn (.func 69) [] [.ptr bo 0, .vp (eSub x)]]), (bo, [.slc 2 ((ack2 x).map eRow) tk])]) (fun tk s => Moves (τ.setBox bo [.slc 2 ((ack2 x).map eRow) tk]) .full s tk) (fun hc => ?_) (fun hc => ?_) ?_
  · have h0 : x.acks ≠ [] := by rintro e; rw [e] at hc; simp at hc
    have e1 : ack2 x = [] ++ [⟨rkey 2 97 x.id 0, acksB x⟩] := by rw [ack2, if_neg h0]; rfl
    (conv => whnf); refine SReg.d [1, 3, 0, 2, 4, 5, 6] [1, 0, 1, 0, 1, 0, 2] (by decide +kernel) ?_; (conv => whnf); (conv => whnf); refine SLoad.on 0 rfl ?_; (conv => whnf); refine SCall.p (by exact gaps2_p w0 _ _ _ (by omega)) ?_; (conv => whnf)
    refine SCall.o 1 (fun hb => by exact lay2_any w0 hL x 97 _ _ _ [] bo _ _ (kbo _ _ _ hm) hm.room (by simp)) rfl rfl fun tk1 σ1 hn1 => ?_
    (conv => whnf)
    have hm2 := hm.chain hn1
    rw [e1]
    exact ⟨tk1, by repeat (first | exact trivial | refine ⟨by first | trivial | exact Weak.refl _ | exact Weak.tok _ _ _ | exact Weak.of_eq (congrArg (AV.int _) (by omega)) | exact Weak.of_eq (congrArg AV.bool (by fail)) | exact Weak.nils _ _ (.inr rfl), ?_⟩), .refl _, hm2⟩
  · have h0 : x.acks = [] := by
      cases h : x.acks with
      | nil => rfl
      | cons a l => rw [h] at hc; simp at hc
    have e1 : ack2 x = [] := by rw [ack2, if_pos h0]
    rw [e1]
    (conv => whnf)
    exact ⟨.full, by repeat (first | exact trivial | refine ⟨by first | trivial | exact Weak.refl _ | exact Weak.tok _ _ _ | exact Weak.of_eq (congrArg (AV.int _) (by omega)) | exact Weak.of_eq (congrArg AV.bool (by fail)) | exact Weak.nils _ _ (.inr rfl), ?_⟩), .refl _, hm⟩
  clear hm; intro tk s hm; (conv => whnf)
  refine SCall.o 1 (fun hb => by exact each2_any w0 hL x hnq 98 72 (fun m => txt m.body) (fun m hq => of3_any w0 m (hx.queue m hq).1) _ bo b4 _ _ (kbo _ _ _ hm) (kb4 _ _ _ hm) hne hm.room (by omega)) rfl rfl fun tk1 σ1 hn1 => ?_
  (conv => whnf)
  have hm := hm.chain hn1
  clear hn1
  rw [rowsOf_b] at hm ⊢
  refine SIf.meet Ty.mixed (fun tk => [(1, .vp (eSub x)), (3, .ptr bo 0), (4, .ptr b4 0), (5, .fn (.func 70) [] [.vp (eSub x), .ptr b4 0])]) (fun tk => [(b4, [.fn (.func 69) [] [.ptr bo 0, .vp (eSub x)]]), (bo, [.slc 2 ((ack2 x ++ x.queue.map (b2 x.id) ++ note2 x).map eRow) tk])]) (fun tk s => Moves (τ.setBox bo [.slc 2 ((ack2 x ++ x.queue.map (b2 x.id) ++ note2 x).map eRow) tk]) .full s tk) (fun hc => ?_) (fun hc => ?_) ?_
  · have h0 : x.note ≠ [] := by rintro e; simp [e] at hc
    have e1 : note2 x = [⟨rkey 2 110 x.id 0, txt x.note⟩] := by rw [note2, if_neg h0]
    (conv => whnf); refine SReg.d [1, 0, 2, 3, 4, 5, 6] [1, 0, 1, 0, 0, 0, 2] (by decide +kernel) ?_; (conv => whnf); (conv => whnf); refine SLoad.on 0 rfl ?_; (conv => whnf); refine SCall.p (by exact form2_t (bs := txt x.note) w0 [.s _] ⟨hs4, trivial⟩ (Nat.le_of_ble_eq_true rfl) _ rfl) ?_; (conv => whnf)
    refine SCall.o 1 (fun hb => by exact lay2_any w0 hL x 110 _ _ _ _ bo _ _ (kbo _ _ _ hm) hm.room (by simp only [List.length_append, List.length_map]; omega)) rfl rfl fun tk1 σ1 hn1 => ?_
    (conv => whnf)
    have hm2 := hm.chain hn1
    rw [e1]
    exact ⟨_, by repeat (first | exact trivial | refine ⟨by first | trivial | exact Weak.refl _ | exact Weak.tok _ _ _ | exact Weak.of_eq (congrArg (AV.int _) (by omega)) | exact Weak.of_eq (congrArg AV.bool (by fail)) | exact Weak.nils _ _ (.inr rfl), ?_⟩), .refl _, hm2⟩
  · have h0 : x.note = [] := by simpa using hc
    have e1 : note2 x = [] := by rw [note2, if_pos h0]
    rw [e1, List.append_nil]
    (conv => whnf)
    exact ⟨_, by repeat (first | exact trivial | refine ⟨by first | trivial | exact Weak.refl _ | exact Weak.tok _ _ _ | exact Weak.of_eq (congrArg (AV.int _) (by omega)) | exact Weak.of_eq (congrArg AV.bool (by fail)) | exact Weak.nils _ _ (.inr rfl), ?_⟩), .refl _, hm⟩
  clear hm; intro tk s hm; (conv => whnf)
  refine SCall.o 1 (fun hb => by exact each2_any w0 hL x hnq 113 74 qB2 (fun m hq => of4_any w0 m (hx.queue m hq).2) _ bo b4 _ _ (kbo _ _ _ hm) (kb4 _ _ _ hm) hne hm.room (by simp only [List.length_append, List.length_map]; omega)) rfl rfl fun tk1 σ1 hn1 => ?_
  (conv => whnf)
  have hm := hm.chain hn1
  clear hn1
  rw [rowsOf_q] at hm ⊢
  refine SReg.d [1, 4, 7, 10, 13, 16, 0, 2, 3, 5, 6, 8, 9, 11, 12, 14, 15, 17, 18, 19, 20, 21] [1, 0, 1, 0, 0, 1, 0, 0, 1, 0, 0, 1, 0, 0, 1, 0, 0, 1, 0, 0, 0, 2] (by decide +kernel) ?_; (conv => whnf); (conv => whnf); refine SLoad.on 0 rfl ?_; (conv => whnf); refine SCall.p (by exact form2_t (bs := sB2 x) w0 [.s _, .s _, .s _, .n _, .n _, .n _] ⟨hs1, hs2, hs3, trivial⟩ (Nat.le_of_ble_eq_true rfl) _ rfl) ?_; (conv => whnf)
  refine SCall.o 1 (fun hb => by exact lay2_any w0 hL x 115 _ _ _ _ bo _ _ (kbo _ _ _ hm) hm.room (by simp only [List.length_append, List.length_map]; omega)) rfl rfl fun tk1 σ1 hn1 => ?_
  (conv => whnf)
  have hm := hm.chain hn1
  clear hn1
  refine SCall.o 1 (fun hb => by exact each2_any w0 hL x hnq 120 76 xN (fun m hq => of5_any w0 m) _ bo b4 _ _ (kbo _ _ _ hm) (kb4 _ _ _ hm) hne hm.room (by simp only [List.length_append, List.length_map, List.length_cons, List.length_nil]; omega)) rfl rfl fun tk1 σ1 hn1 => ?_
  (conv => whnf); refine SLoad.on 1 rfl ?_; (conv => whnf)
  have hm := hm.chain hn1
  clear hn1
  rw [rowsOf_x] at hm ⊢
  refine .v (.trans ?_ hm.le) (.tok ..); exact le_setBox hle hbo
end Go.Proofs.YtkbmkhhcppfcnaaDoor
end
section
set_option linter.unusedVariables false
namespace Go.Proofs.YtkbmkhhcppfcnaaDoor
open Go.Al
def n2 (v : List UInt8) (s : Nat × Bool) : Nat × Nat × Bool :=
  if s.2 = true ∨ (getNum v s.1).2.2 ≠ 0 then (0, s.1, true) else ((getNum v s.1).1, (getNum v s.1).2.1, false)
def t2 (v : List UInt8) (s : Nat × Bool) (most : Nat) : List UInt8 × Nat × Bool :=
  if s.2 = true ∨ (getText v s.1 most).2.2 ≠ 0 then ([], s.1, true) else ((getText v s.1 most).1, (getText v s.1 most).2.1, false)
def gp2 (v : List UInt8) : Nat → Nat × Bool → List Int → List Int × Nat × Bool
  | 0, s, acc => (acc, s)
  | n + 1, s, acc => if s.2 = true then (acc, s) else gp2 v n (n2 v s).2 (acc ++ [((n2 v s).1 : Int)])
def mB (v : List UInt8) (m : Msg) : Msg := { m with body := (t2 v (0, false) 60).1 }
def mQ (v : List UInt8) (m : Msg) : Msg :=
  let p1 := t2 v (0, false) 30
  let p2 := n2 v p1.2
  let p3 := n2 v p2.2
  let p4 := n2 v p3.2
  { m with attr := p1.1, tries := p2.1, until_ := p3.1, dead := decide ((p4.1 : Int) = 1) }
def mX (v : List UInt8) (m : Msg) : Msg :=
  let p1 := n2 v (0, false)
  let p2 := n2 v p1.2
  { m with prio := p1.1, why := whyN (min p2.1 2) }
def sS (v : List UInt8) (x : Sub) : Sub :=
  let p1 := t2 v (0, false) 30
  let p2 := t2 v p1.2 30
  let p3 := t2 v p2.2 30
  let p4 := n2 v p3.2
  let p5 := n2 v p4.2
  let p6 := n2 v p5.2
  { x with name := p1.1, topic := p2.1, want := p3.1, lease := p4.1, most := p5.1, floor := p6.1 }
def msg0 (seq : Int) : Msg := ⟨seq, [], [], 0, 0, false, [], 0⟩
def updF (seq : Int) (f : Msg → Msg) : List Msg → List Msg
  | [] => []
  | m :: l => if m.seq = seq then f m :: l else m :: updF seq f l
def add2 (x : Sub) (r : Row) : Sub :=
  let p := parts r.key
  let x := { x with id := p.id }
  if p.t = 97 then { x with acks := (gp2 r.val (n2 r.val (0, false)).1 (n2 r.val (0, false)).2 x.acks).1 }
  else if p.t = 98 then { x with queue := updF p.seq (mB r.val) (x.queue ++ [msg0 p.seq]) }
  else if p.t = 110 then { x with note := (t2 r.val (0, false) 30).1 }
  else if p.t = 113 then { x with queue := updF p.seq (mQ r.val) x.queue }
  else if p.t = 115 then sS r.val x
  else if p.t = 120 then { x with queue := updF p.seq (mX r.val) x.queue }
  else x
def rows2 (l : List Row) : Sub := l.foldl add2 sub0
def fin2 (l : List Row) : Sub := let x := rows2 l; { x with acks := runUp x.floor x.acks }
def dec2 (l : List Row) : Sub × Nat := if upTo l l.length = true ∧ enc2 (fin2 l) = l then (fin2 l, 0) else (sub0, 11)
theorem n2_far (v : List UInt8) (s : Nat × Bool) : (n2 v s).2.1 ≤ max s.1 v.length := by
  unfold n2
  split
  · exact Nat.le_max_left ..
  · have := (getNum_le v s.1).1
    simp only; omega
theorem t2_far (v : List UInt8) (s : Nat × Bool) (most : Nat) : (t2 v s most).2.1 ≤ max s.1 v.length := by
  unfold t2
  split
  · exact Nat.le_max_left ..
  · have := (getText_far v s.1 most).1
    simp only; omega
theorem t2_len (v : List UInt8) (s : Nat × Bool) (most : Nat) : (t2 v s most).1.length ≤ most := by
  unfold t2
  split
  · simp
  · exact (getText_far v s.1 most).2
theorem n2_max (v : List UInt8) (s : Nat × Bool) : (n2 v s).1 ≤ 9007199254740992 := by
  unfold n2
  split
  · simp
  · exact (getNum_le v s.1).2.1
end Go.Proofs.YtkbmkhhcppfcnaaDoor
end
section
set_option linter.unusedVariables false
set_option linter.unusedSimpArgs false
set_option maxRecDepth 100000
set_option maxHeartbeats 1000000
namespace Go.Proofs.YtkbmkhhcppfcnaaDoor
open Go.Al Go.RowKit
def rd2 (v : List UInt8) (s : Nat × Bool) : List AV := [.slc 1 (aBytes v) .no, .int .i64 (s.1 : Nat), .bool s.2]
theorem rnum2_any (w0 : World) (v : List UInt8) (a : Nat) (bad : Bool) (b : Nat) (σ : St) (hv : v.length ≤ 1000000) (ha : a ≤ 1000000) (hb : σ.box b = some (rd2 v (a, bad))) :
    CallW Tryd.prog w0 113 [.ptr b 0] σ (fun r s => r = .int .i64 ((n2 v (a, bad)).1 : Nat) ∧ s = σ.setBox b (rd2 v (n2 v (a, bad)).2)) := by
  refine CallW.x (B := [(b, rd2 v (a, bad))]) Ty.tok Ty.mixed Tryd.func113 rfl Tryd.ntmps113 rfl (by simp) (by decide +kernel) ⟨by simpa using hb, by simp⟩ ?_
  have hgn := getNum_any w0 v .no a (by omega) (by omega)
  have hn2 : n2 v (a, bad) = if bad = true ∨ (getNum v a).2.2 ≠ 0 then (0, a, true) else ((getNum v a).1, (getNum v a).2.1, false) := rfl
  generalize getNum v a = g at hgn hn2
  obtain ⟨n, k, e⟩ := g
  cases bad with
  | true =>
    rw [hn2, if_pos (.inl rfl)]
    (conv => whnf); refine SReg.d [0, 1, 2, 4, 5, 6, 3, 7, 8, 9, 10, 11, 12, 13, 14, 15] [0, 0, 0, 1, 0, 0, 0, 1, 0, 0, 0, 0, 0, 0, 0, 0] (by decide +kernel) ?_; (conv => whnf); (conv => whnf); refine SLoad.on 0 rfl ?_; (conv => whnf); refine SLoad.on 0 rfl ?_; (conv => whnf); refine SCall.p (by exact hgn) ?_; (conv => whnf); refine SLoad.on 0 rfl ?_; (conv => whnf); refine SCond.y (by exact rfl) ?_; (conv => whnf); refine SCond.y (by exact rfl) ?_; (conv => whnf)
    refine SPick.y (by exact rfl) ?_; (conv => whnf); refine SStore.on 0 rfl ?_; (conv => whnf); refine SLoad.on 0 rfl ?_; (conv => whnf); refine SIf.y Ty.mixed (by exact rfl) ?_; (conv => whnf); exact .p (.refl _) rfl
  | false =>
    by_cases he : e = 0
    · subst he
      rw [hn2, if_neg (by simp)]
      (conv => whnf); refine SReg.d [0, 1, 2, 4, 5, 6, 3, 7, 8, 9, 10, 11, 12, 13, 14, 15] [0, 0, 0, 1, 0, 0, 0, 1, 0, 0, 0, 0, 0, 0, 0, 0] (by decide +kernel) ?_; (conv => whnf); (conv => whnf); refine SLoad.on 0 rfl ?_; (conv => whnf); refine SLoad.on 0 rfl ?_; (conv => whnf); refine SCall.p (by exact hgn) ?_; (conv => whnf); refine SLoad.on 0 rfl ?_; (conv => whnf); refine SCond.n (by exact rfl) ?_; (conv => whnf); refine SCond.n (by exact rfl) ?_; (conv => whnf)
      refine SPick.n (by exact rfl) ?_; (conv => whnf); refine SStore.on 0 rfl ?_; (conv => whnf); refine SLoad.on 0 rfl ?_; (conv => whnf); refine SIf.n Ty.mixed (by exact rfl) ?_; (conv => whnf); refine SStore.on 0 rfl ?_; (conv => whnf)
      rw [setBox_setBox]
      exact .p (.refl _) rfl
    · have hd : (!decide ((e : Int) = 0)) = true := by simp [he]
      rw [hn2, if_pos (.inr he)]
      (conv => whnf); refine SReg.d [0, 1, 2, 4, 5, 6, 3, 7, 8, 9, 10, 11, 12, 13, 14, 15] [0, 0, 0, 1, 0, 0, 0, 1, 0, 0, 0, 0, 0, 0, 0, 0] (by decide +kernel) ?_; (conv => whnf); (conv => whnf); refine SLoad.on 0 rfl ?_; (conv => whnf); refine SLoad.on 0 rfl ?_; (conv => whnf); refine SCall.p (by exact hgn) ?_; (conv => whnf); refine SLoad.on 0 rfl ?_; (conv => whnf); refine SCond.n (by exact rfl) ?_; (conv => whnf); refine SCond.n (by exact rfl) ?_; (conv => whnf)
      refine SPick.n (by exact rfl) ?_; (conv => whnf); refine SStore.on 0 rfl ?_; (conv => whnf); refine SLoad.on 0 rfl ?_; (conv => whnf); refine SIf.y Ty.mixed (by assumption) ?_; (conv => whnf); refine .p ?_ rfl
      show St.Le (σ.setBox b [_, _, .bool true]) (σ.setBox b [_, _, .bool (!decide ((e : Int) = 0))])
      rw [hd]
      exact .refl _
theorem rtext2_any (w0 : World) (v : List UInt8) (a : Nat) (bad : Bool) (most : Nat) (b : Nat) (σ : St) (hv : v.length ≤ 1000000) (ha : a ≤ 1000000) (hm : most ≤ 1000) (hb : σ.box b = some (rd2 v (a, bad))) :
    CallW Tryd.prog w0 115 [.ptr b 0, .int .i64 most] σ (fun r s => r = .str (t2 v (a, bad) most).1 ∧ s = σ.setBox b (rd2 v (t2 v (a, bad) most).2)) := by
  refine CallW.x (B := [(b, rd2 v (a, bad))]) Ty.tok Ty.mixed Tryd.func115 rfl Tryd.ntmps115 rfl (by simp) (by decide +kernel) ⟨by simpa using hb, by simp⟩ ?_
  have hgn := getText_any w0 v .no a most (by omega) (by omega) (by omega)
  have hn2 : t2 v (a, bad) most = if bad = true ∨ (getText v a most).2.2 ≠ 0 then ([], a, true) else ((getText v a most).1, (getText v a most).2.1, false) := rfl
  generalize getText v a most = g at hgn hn2
  obtain ⟨n, k, e⟩ := g
  cases bad with
  | true =>
    rw [hn2, if_pos (.inl rfl)]
    (conv => whnf); refine SReg.d [0, 1, 2, 4, 5, 6, 8, 3, 7, 9, 10, 11, 12, 13, 14, 15, 16] [0, 0, 0, 1, 0, 0, 0, 1, 0, 0, 0, 0, 0, 0, 0, 0, 0] (by decide +kernel) ?_; (conv => whnf); (conv => whnf); refine SLoad.on 0 rfl ?_; (conv => whnf); refine SLoad.on 0 rfl ?_; (conv => whnf); refine SCall.p (by exact hgn) ?_; (conv => whnf); refine SLoad.on 0 rfl ?_; (conv => whnf); refine SCond.y (by exact rfl) ?_; (conv => whnf); refine SCond.y (by exact rfl) ?_; (conv => whnf)
    refine SPick.y (by exact rfl) ?_; (conv => whnf); refine SStore.on 0 rfl ?_; (conv => whnf); refine SLoad.on 0 rfl ?_; (conv => whnf); refine SIf.y Ty.mixed (by exact rfl) ?_; (conv => whnf); exact .p (.refl _) rfl
  | false =>
    by_cases he : e = 0
    · subst he
      rw [hn2, if_neg (by simp)]
      (conv => whnf); refine SReg.d [0, 1, 2, 4, 5, 6, 8, 3, 7, 9, 10, 11, 12, 13, 14, 15, 16] [0, 0, 0, 1, 0, 0, 0, 1, 0, 0, 0, 0, 0, 0, 0, 0, 0] (by decide +kernel) ?_; (conv => whnf); (conv => whnf); refine SLoad.on 0 rfl ?_; (conv => whnf); refine SLoad.on 0 rfl ?_; (conv => whnf); refine SCall.p (by exact hgn) ?_; (conv => whnf); refine SLoad.on 0 rfl ?_; (conv => whnf); refine SCond.n (by exact rfl) ?_; (conv => whnf); refine SCond.n (by exact rfl) ?_; (conv => whnf)
      refine SPick.n (by exact rfl) ?_; (conv => whnf); refine SStore.on 0 rfl ?_; (conv => whnf); refine SLoad.on 0 rfl ?_; (conv => whnf); refine SIf.n Ty.mixed (by exact rfl) ?_; (conv => whnf); refine SStore.on 0 rfl ?_; (conv => whnf)
      rw [setBox_setBox]
      exact .p (.refl _) rfl
    · have hd : (!decide ((e : Int) = 0)) = true := by simp [he]
      rw [hn2, if_pos (.inr he)]
      (conv => whnf); refine SReg.d [0, 1, 2, 4, 5, 6, 8, 3, 7, 9, 10, 11, 12, 13, 14, 15, 16] [0, 0, 0, 1, 0, 0, 0, 1, 0, 0, 0, 0, 0, 0, 0, 0, 0] (by decide +kernel) ?_; (conv => whnf); (conv => whnf); refine SLoad.on 0 rfl ?_; (conv => whnf); refine SLoad.on 0 rfl ?_; (conv => whnf); refine SCall.p (by exact hgn) ?_; (conv => whnf); refine SLoad.on 0 rfl ?_; (conv => whnf); refine SCond.n (by exact rfl) ?_; (conv => whnf); refine SCond.n (by exact rfl) ?_; (conv => whnf)
      refine SPick.n (by exact rfl) ?_; (conv => whnf); refine SStore.on 0 rfl ?_; (conv => whnf); refine SLoad.on 0 rfl ?_; (conv => whnf); refine SIf.y Ty.mixed (by assumption) ?_; (conv => whnf); refine .p ?_ rfl
      show St.Le (σ.setBox b [_, _, .bool true]) (σ.setBox b [_, _, .bool (!decide ((e : Int) = 0))])
      rw [hd]
      exact .refl _
end Go.Proofs.YtkbmkhhcppfcnaaDoor
end
section
set_option linter.unusedVariables false
set_option linter.unusedSimpArgs false
set_option maxRecDepth 100000
set_option maxHeartbeats 1000000
namespace Go.Proofs.YtkbmkhhcppfcnaaDoor
open Go.Al Go.RowKit
theorem rnum2_s (w0 : World) (v : List UInt8) (s : Nat × Bool) (b : Nat) (σ : St) (hv : v.length ≤ 1000000) (ha : s.1 ≤ 1000000) (hb : σ.box b = some (rd2 v s)) :
    CallW Tryd.prog w0 113 [.ptr b 0] σ (fun r s' => r = .int .i64 ((n2 v s).1 : Nat) ∧ s' = σ.setBox b (rd2 v (n2 v s).2)) := rnum2_any w0 v s.1 s.2 b σ hv ha hb
theorem rtext2_s (w0 : World) (v : List UInt8) (s : Nat × Bool) (most : Nat) (b : Nat) (σ : St) (hv : v.length ≤ 1000000) (ha : s.1 ≤ 1000000) (hm : most ≤ 1000) (hb : σ.box b = some (rd2 v s)) :
    CallW Tryd.prog w0 115 [.ptr b 0, .int .i64 most] σ (fun r s' => r = .str (t2 v s most).1 ∧ s' = σ.setBox b (rd2 v (t2 v s most).2)) := rtext2_any w0 v s.1 s.2 most b σ hv ha hm hb
def mc (m : Msg) : List AV := [.int .i64 m.seq, .str m.body, .str m.attr, .int .i64 m.tries, .int .i64 m.until_, .bool m.dead, .str m.why, .int .i64 m.prio]
theorem two_boxes {σ : St} {a b : Nat} {xs ys : List AV} (hne : a ≠ b) : ((σ.setBox a xs).setBox b ys).box a = some xs := by rw [setBox_ne hne]; exact setBox_same
def MsgW (w0 : World) (f : FuncId) (g : List UInt8 → Msg → Msg) : Prop := ∀ (v : List UInt8) (m : Msg) (bx bm br : Nat) (pre post : List AV) (σ : St), v.length ≤ 1000000 → σ.box bm = some (pre ++ mc m ++ post) → σ.box br = some (rd2 v (0, false)) → bm ≠ br →
  CallW Tryd.prog w0 f [.ptr bx 0, .ptr bm pre.length, .ptr br 0] σ (fun r s => r = .tup [] ∧ ∃ s', s = (σ.setBox br (rd2 v s')).setBox bm (pre ++ mc (g v m) ++ post))
theorem tB_any (w0 : World) : MsgW w0 114 mB := by
  intro v m bx bm br pre post σ hv hm hr hne
  refine CallW.x (B := [(br, rd2 v (0, false)), (bm, pre ++ mc m ++ post)]) Ty.tok Ty.mixed Tryd.func114 rfl Tryd.ntmps114 rfl (by simp) (by decide +kernel) ⟨by simp [hr, hm], by simp [Ne.symm hne]⟩ ?_
  (conv => whnf); refine SCall.b 0 (fun hb => by exact rtext2_s w0 v _ 60 br _ hv (Nat.zero_le _) (by decide) hb) rfl rfl ?_; (conv => whnf); refine SStore.mid 1 _ rfl rfl (Nat.le_of_ble_eq_true rfl) ?_; (conv => whnf); exact .w ⟨rfl, _, rfl⟩
theorem tQ_any (w0 : World) : MsgW w0 117 mQ := by
  intro v m bx bm br pre post σ hv hm hr hne
  refine CallW.x (B := [(br, rd2 v (0, false)), (bm, pre ++ mc m ++ post)]) Ty.tok Ty.mixed Tryd.func117 rfl Tryd.ntmps117 rfl (by simp) (by decide +kernel) ⟨by simp [hr, hm], by simp [Ne.symm hne]⟩ ?_
  have f1 := t2_far v (0, false) 30
  have f2 := n2_far v (t2 v (0, false) 30).2
  have f3 := n2_far v (n2 v (t2 v (0, false) 30).2).2
  (conv => whnf); refine SCall.b 0 (fun hb => by first | exact rtext2_s w0 v _ 30 br _ hv (Nat.zero_le _) (by decide) hb | exact rnum2_s w0 v _ br _ hv (by omega) hb) rfl rfl ?_; (conv => whnf); refine SCall.b 0 (fun hb => by first | exact rtext2_s w0 v _ 30 br _ hv (Nat.zero_le _) (by decide) hb | exact rnum2_s w0 v _ br _ hv (by omega) hb) rfl rfl ?_; (conv => whnf)
  refine SCall.b 0 (fun hb => by first | exact rtext2_s w0 v _ 30 br _ hv (Nat.zero_le _) (by decide) hb | exact rnum2_s w0 v _ br _ hv (by omega) hb) rfl rfl ?_; (conv => whnf); refine SStore.mid 1 _ rfl rfl (Nat.le_of_ble_eq_true rfl) ?_; (conv => whnf); refine SStore.mid 1 _ rfl rfl (Nat.le_of_ble_eq_true rfl) ?_; (conv => whnf); refine SStore.mid 1 _ rfl rfl (Nat.le_of_ble_eq_true rfl) ?_
  (conv => whnf); refine SCall.b 0 (fun hb => by first | exact rtext2_s w0 v _ 30 br _ hv (Nat.zero_le _) (by decide) hb | exact rnum2_s w0 v _ br _ hv (by omega) hb) rfl rfl ?_; (conv => whnf); refine SStore.mid 1 _ rfl rfl (Nat.le_of_ble_eq_true rfl) ?_; (conv => whnf)
  have sc : ∀ (s : St) X Y, (s.setBox bm Y).setBox br X = (s.setBox br X).setBox bm Y := fun s X Y => setBox_comm hne
  simp only [setBox_setBox, sc]
  exact .w ⟨rfl, _, rfl⟩
theorem tX_any (w0 : World) : MsgW w0 119 mX := by
  intro v m bx bm br pre post σ hv hm hr hne
  refine CallW.x (B := [(br, rd2 v (0, false)), (bm, pre ++ mc m ++ post)]) Ty.tok Ty.mixed Tryd.func119 rfl Tryd.ntmps119 rfl (by simp) (by decide +kernel) ⟨by simp [hr, hm], by simp [Ne.symm hne]⟩ ?_
  have f1 := n2_far v (0, false)
  have hw : ∀ n : Nat, ([AV.str [], .str [110, 97, 99, 107], .str [116, 105, 109, 101]] : List AV)[(min (n : Int) 2).toNat]? = some (.str (whyN (min n 2))) := by
    intro n
    by_cases h0 : n = 0
    · subst h0; rfl
    · by_cases h1 : n = 1
      · subst h1; rfl
      · have : (min (n : Int) 2).toNat = 2 := by omega
        have h2 : min n 2 = 2 := by omega
        rw [this, h2]; rfl
  (conv => whnf); refine SCall.b 0 (fun hb => by exact rnum2_s w0 v _ br _ hv (by first | exact Nat.zero_le _ | omega) hb) rfl rfl ?_; (conv => whnf); refine SStore.mid 1 _ rfl rfl (Nat.le_of_ble_eq_true rfl) ?_; (conv => whnf); refine SCall.p (by exact deaths2_any w0) ?_; (conv => whnf)
  refine SCall.b 0 (fun hb => by exact rnum2_s w0 v _ br _ hv (by first | exact Nat.zero_le _ | omega) hb) rfl rfl ?_; (conv => whnf)
  refine ⟨_, ⟨by first | omega | (simp only [List.length_cons, List.length_append, List.length_nil, List.length_map, length_aBytes, List.length_replicate, List.length_range]; omega) | fail, by exact hw _⟩, ?_⟩
  (conv => whnf); refine SStore.mid 1 _ rfl rfl (Nat.le_of_ble_eq_true rfl) ?_; (conv => whnf)
  have sc : ∀ (s : St) X Y, (s.setBox bm Y).setBox br X = (s.setBox br X).setBox bm Y := fun s X Y => setBox_comm hne
  simp only [setBox_setBox, sc]
  exact .w ⟨rfl, _, rfl⟩
def xc (x : Sub) (ac qv : AV) : List AV := [.int .i64 x.id, .str x.name, .str x.topic, .str x.want, .int .i64 x.lease, .int .i64 x.most, .int .i64 x.floor, ac, qv, .str x.note]
theorem tN_any (w0 : World) (v : List UInt8) (x : Sub) (ac qv : AV) (bx br bm o : Nat) (σ : St) (hv : v.length ≤ 1000000) (hx : σ.box bx = some (xc x ac qv)) (hr : σ.box br = some (rd2 v (0, false))) (hne : bx ≠ br) :
    CallW Tryd.prog w0 116 [.ptr bx 0, .ptr bm o, .ptr br 0] σ (fun r s => r = .tup [] ∧ ∃ s', s = (σ.setBox br (rd2 v s')).setBox bx (xc { x with note := (t2 v (0, false) 30).1 } ac qv)) := by
  refine CallW.x (B := [(br, rd2 v (0, false)), (bx, xc x ac qv)]) Ty.tok Ty.mixed Tryd.func116 rfl Tryd.ntmps116 rfl (by simp) (by decide +kernel) ⟨by simp [hr, hx], by simp [Ne.symm hne]⟩ ?_
  (conv => whnf); refine SCall.b 0 (fun hb => by exact rtext2_s w0 v _ 30 br _ hv (Nat.zero_le _) (by decide) hb) rfl rfl ?_; (conv => whnf); refine SStore.on 1 rfl ?_; (conv => whnf); exact .w ⟨rfl, _, rfl⟩
theorem tS_any (w0 : World) (v : List UInt8) (x : Sub) (ac qv : AV) (bx br bm o : Nat) (σ : St) (hv : v.length ≤ 1000000) (hx : σ.box bx = some (xc x ac qv)) (hr : σ.box br = some (rd2 v (0, false))) (hne : bx ≠ br) :
    CallW Tryd.prog w0 118 [.ptr bx 0, .ptr bm o, .ptr br 0] σ (fun r s => r = .tup [] ∧ ∃ s', s = (σ.setBox br (rd2 v s')).setBox bx (xc (sS v x) ac qv)) := by
  refine CallW.x (B := [(br, rd2 v (0, false)), (bx, xc x ac qv)]) Ty.tok Ty.mixed Tryd.func118 rfl Tryd.ntmps118 rfl (by simp) (by decide +kernel) ⟨by simp [hr, hx], by simp [Ne.symm hne]⟩ ?_
  have f1 := t2_far v (0, false) 30
  have f2 := t2_far v (t2 v (0, false) 30).2 30
  have f3 := t2_far v (t2 v (t2 v (0, false) 30).2 30).2 30
  have f4 := n2_far v (t2 v (t2 v (t2 v (0, false) 30).2 30).2 30).2
  have f5 := n2_far v (n2 v (t2 v (t2 v (t2 v (0, false) 30).2 30).2 30).2).2
  (conv => whnf); refine SCall.b 0 (fun hb => by first | exact rtext2_s w0 v _ 30 br _ hv (by first | exact Nat.zero_le _ | omega) (by decide) hb | exact rnum2_s w0 v _ br _ hv (by omega) hb) rfl rfl ?_; (conv => whnf)
  refine SCall.b 0 (fun hb => by first | exact rtext2_s w0 v _ 30 br _ hv (by first | exact Nat.zero_le _ | omega) (by decide) hb | exact rnum2_s w0 v _ br _ hv (by omega) hb) rfl rfl ?_; (conv => whnf); refine SCall.b 0 (fun hb => by first | exact rtext2_s w0 v _ 30 br _ hv (by first | exact Nat.zero_le _ | omega) (by decide) hb | exact rnum2_s w0 v _ br _ hv (by omega) hb) rfl rfl ?_
  (conv => whnf); refine SStore.on 1 rfl ?_; (conv => whnf); refine SStore.on 1 rfl ?_; (conv => whnf); refine SStore.on 1 rfl ?_; (conv => whnf); refine SCall.b 0 (fun hb => by first | exact rtext2_s w0 v _ 30 br _ hv (by first | exact Nat.zero_le _ | omega) (by decide) hb | exact rnum2_s w0 v _ br _ hv (by omega) hb) rfl rfl ?_; (conv => whnf)
  refine SCall.b 0 (fun hb => by first | exact rtext2_s w0 v _ 30 br _ hv (by first | exact Nat.zero_le _ | omega) (by decide) hb | exact rnum2_s w0 v _ br _ hv (by omega) hb) rfl rfl ?_; (conv => whnf); refine SCall.b 0 (fun hb => by first | exact rtext2_s w0 v _ 30 br _ hv (by first | exact Nat.zero_le _ | omega) (by decide) hb | exact rnum2_s w0 v _ br _ hv (by omega) hb) rfl rfl ?_
  (conv => whnf); refine SStore.on 1 rfl ?_; (conv => whnf); refine SStore.on 1 rfl ?_; (conv => whnf); refine SStore.on 1 rfl ?_; (conv => whnf)
  have sc : ∀ (s : St) X Y, (s.setBox bx Y).setBox br X = (s.setBox br X).setBox bx Y := fun s X Y => setBox_comm hne
  simp only [setBox_setBox, sc]
  exact .w ⟨rfl, _, rfl⟩
end Go.Proofs.YtkbmkhhcppfcnaaDoor
end
