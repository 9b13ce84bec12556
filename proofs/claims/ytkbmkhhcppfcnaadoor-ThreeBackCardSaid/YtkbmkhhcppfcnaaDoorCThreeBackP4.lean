/- The law ThreeBack returns true for every input, and its arguments read as before: the tied card. No conditions. This is part 4 of 7 of its proof; the parts are read in order. No conditions. -/
import Derived.Test.YtkbmkhhcppfcnaaDoorCThreeBackP3
section
set_option linter.unusedVariables false
set_option linter.unusedSimpArgs false
set_option maxRecDepth 100000
set_option maxHeartbeats 1000000
namespace Go.Proofs.YtkbmkhhcppfcnaaDoor
open Go.Al Go.RowKit
instance : TyI Tryd.prog 65 := ⟨_, Tryd.underlying65⟩
instance : TyNI Tryd.prog 140 := ⟨_, Tryd.underlying140, rfl⟩
def gn (b : List UInt8) (at_ : Nat) : Nat → Nat → Nat → Nat × Nat × Nat
  | 0, _, _ => (0, 0, 11)
  | k + 1, i, n => if at_ + i = b.length then (0, 0, 10) else
    let c := (b.getD (at_ + i) 0).toNat
    let n' := n + c % 128 * 2 ^ (7 * i)
    if c < 128 then (if c = 0 ∧ 0 < i ∨ 9007199254740992 < n' then (0, 0, 11) else (n', at_ + i + 1, 0)) else gn b at_ k (i + 1) n'
def getNum (b : List UInt8) (at_ : Nat) : Nat × Nat × Nat := if b.length < at_ then (0, 0, 10) else gn b at_ 8 0 0
def e3 (p : Nat × Nat × Nat) : AV := .tup [.int .i64 p.1, .int .i64 p.2.1, .int .u16 p.2.2]
theorem getNum_any (w0 : World) (b : List UInt8) (t : Tok) (a : Nat) (hb : b.length ≤ 1000000000) (ha : a ≤ 1000000000) : CallP Tryd.prog w0 91 [.slc 1 (aBytes b) t, .int .i64 a] (e3 (getNum b a)) := by
  refine CallP.start Tryd.func91 rfl Tryd.ntmps91 (by simp) fun σ Q hQ => ?_
  have hd0 : decide ((a : Int) < 0) = false := decide_eq_false (by omega)
  refine W.seq ?_
  refine W.regionL (by decide +kernel) rfl ?_
  apply r_op
  exact rfl
  exact rfl
  apply a_assign
  (conv => (lhs; whnf))
  apply r_op
  exact rfl
  exact rfl
  apply a_assign
  (conv => (lhs; whnf))
  apply r_op
  exact rfl
  exact rfl
  apply a_assign
  (conv => (lhs; whnf))
  with_reducible refine runs_done ?_
  refine W.scope 1 ?_
  refine W.seq ?_
  refine W.regionL (by decide +kernel) rfl ?_
  apply r_op
  exact rfl
  exact rfl
  apply a_assign
  (conv => (lhs; whnf))
  apply r_op
  exact rfl
  exact rfl
  apply a_assign
  (conv => (lhs; whnf))
  with_reducible refine runs_done ?_
  refine W.seq ?_
  refine W.seq ?_
  refine W.regionL (by decide +kernel) rfl ?_
  apply r_op
  exact rfl
  exact rfl
  apply a_move
  (conv => (lhs; whnf))
  apply r_op
  exact rfl
  exact rfl
  apply g_binOp
  exact a_binI rfl rfl rfl
  apply r_op
  exact rfl
  exact rfl
  apply a_move
  (conv => (lhs; whnf))
  apply r_op
  exact rfl
  exact rfl
  apply a_move
  (conv => (lhs; whnf))
  apply r_op
  exact rfl
  exact rfl
  apply a_move
  (conv => (lhs; whnf))
  apply r_op
  exact rfl
  exact rfl
  apply g_call
  exact a_len_slc rfl
  apply r_op
  exact rfl
  exact rfl
  apply g_binOp
  exact a_binI rfl rfl rfl
  apply r_op
  exact rfl
  exact rfl
  apply g_pick
  apply a_pickF rfl (by exact rfl)
  (conv => (lhs; whnf))
  with_reducible refine runs_done ?_
  refine W.meet (fun E s => s = σ ∧ a ≤ b.length ∧ Has [(0, .slc 1 (aBytes b) t), (1, .int .i64 a), (7, .int .i64 0), (8, .int .i64 0)] E) ?_ ?_
  · refine W.cond rfl (fun hc => ?_) (fun hc => ?_)
    · refine W.goto ?_
      refine ⟨_, rfl, ?_⟩
      show W _ _ _ _ _ _ _
      refine W.seq ?_
      refine W.skip ?_
      show W _ _ _ _ _ _ _
      refine W.seq ?_
      refine W.regionL (by decide +kernel) rfl ?_
      apply r_op
      exact rfl
      exact rfl
      apply a_assign
      (conv => (lhs; whnf))
      apply r_op
      exact rfl
      exact rfl
      apply a_assign
      (conv => (lhs; whnf))
      apply r_op
      exact rfl
      exact rfl
      apply a_assign
      (conv => (lhs; whnf))
      with_reducible refine runs_done ?_
      refine W.ret ?_
      show Q Exit.ret _ _
      refine post_q hQ (by apply res_tmp; exact rfl; apply res_tmp; exact rfl; apply res_tmp; exact rfl; exact res_nil) (.inl rfl) (by exact .refl _) ?_
      (conv => (lhs; whnf))
      have : b.length < a := by simp [length_aBytes] at hc; omega
      rw [getNum, if_pos this]; rfl
    · refine W.skip ?_
      exact ⟨rfl, by simp [length_aBytes] at hc; omega, by exact Has.by (by repeat (first | exact trivial | refine ⟨by first | trivial | exact Weak.refl _ | exact Weak.tok _ _ _ | exact Weak.of_eq (congrArg (AV.int _) (by omega)) | exact Weak.nils _ _ (.inr rfl), ?_⟩))⟩
  · rintro E s ⟨rfl, hle, hE⟩
    refine W.has hE ?_
    clear hE
    refine W.seq ?_
    refine W.block ?_
    refine W.loop (fun k E s' => ∃ (i n : Nat), i + k = 8 ∧ n < 2 ^ (7 * i) ∧ a + i ≤ b.length ∧ getNum b a = gn b a k i n ∧ s' = s ∧ Has [(0, .slc 1 (aBytes b) t), (1, .int .i64 a), (7, .int .i64 n), (8, .int .i64 i)] E) 8 ⟨0, 0, rfl, by simp, by omega, by rw [getNum, if_neg (by omega)], rfl, by exact Has.by (by repeat (first | exact trivial | refine ⟨by first | trivial | exact Weak.refl _ | exact Weak.tok _ _ _ | exact Weak.of_eq (congrArg (AV.int _) (by omega)) | exact Weak.nils _ _ (.inr rfl), ?_⟩))⟩ ?_
    rintro k E s' ⟨i, n, hik, hn, hai, hgn, rfl, hE⟩
    refine W.has hE ?_
    clear hE
    refine W.seq ?_
    refine W.seq ?_
    refine W.regionL (by decide +kernel) rfl ?_
    apply r_op
    exact rfl
    exact rfl
    apply a_move
    (conv => (lhs; whnf))
    apply r_op
    exact rfl
    exact rfl
    apply g_binOp
    exact a_binI rfl rfl rfl
    with_reducible refine runs_done ?_
    refine W.cond rfl (fun hc => ?_) (fun hc => ?_)
    · have hi : i < 8 := by simp at hc; omega
      obtain ⟨k, rfl⟩ : ∃ k', k = k' + 1 := ⟨k - 1, by omega⟩
      clear hc
      refine W.skip ?_
      show W _ _ _ _ _ _ _
      refine W.seq ?_
      refine W.block ?_
      refine W.seq ?_
      refine W.seq ?_
      refine W.regionL (by decide +kernel) rfl ?_
      apply r_op
      exact rfl
      exact rfl
      apply a_move
      (conv => (lhs; whnf))
      apply r_op
      exact rfl
      exact rfl
      apply a_move
      (conv => (lhs; whnf))
      apply r_op
      exact rfl
      exact rfl
      apply g_binOp
      exact a_add64 rfl rfl (by omega)
      apply r_op
      exact rfl
      exact rfl
      apply a_move
      (conv => (lhs; whnf))
      apply r_op
      exact rfl
      exact rfl
      apply g_call
      exact a_len_slc rfl
      apply r_op
      exact rfl
      exact rfl
      apply g_binOp
      exact a_binI rfl rfl rfl
      with_reducible refine runs_done ?_
      refine W.cond rfl (fun hc => ?_) (fun hc => ?_)
      · refine W.goto ?_
        refine ⟨_, rfl, ?_⟩
        show W _ _ _ _ _ _ _
        refine W.seq ?_
        refine W.skip ?_
        show W _ _ _ _ _ _ _
        refine W.seq ?_
        refine W.regionL (by decide +kernel) rfl ?_
        apply r_op
        exact rfl
        exact rfl
        apply a_assign
        (conv => (lhs; whnf))
        apply r_op
        exact rfl
        exact rfl
        apply a_assign
        (conv => (lhs; whnf))
        apply r_op
        exact rfl
        exact rfl
        apply a_assign
        (conv => (lhs; whnf))
        with_reducible refine runs_done ?_
        refine W.ret ?_
        show Q Exit.ret _ _
        refine post_q hQ (by apply res_tmp; exact rfl; apply res_tmp; exact rfl; apply res_tmp; exact rfl; exact res_nil) (.inl rfl) (by exact .refl _) ?_
        (conv => (lhs; whnf))
        have : a + i = b.length := by simp [length_aBytes] at hc; omega
        rw [hgn, gn, if_pos this]; rfl
      · have hne : ¬ a + i = b.length := by simp [length_aBytes] at hc; omega
        have hlt : a + i < b.length := by omega
        have ga : b[((a : Int) + (i : Int)).toNat]? = some (b.getD (a + i) 0) := by
          rw [show ((a : Int) + (i : Int)).toNat = a + i by omega]; simp [hlt]
        clear hc
        rw [gn, if_neg hne] at hgn
        dsimp only at hgn
        generalize b.getD (a + i) 0 = c at ga hgn
        have h127 := and127' c
        have hc256 := c.toNat_lt
        have hm128 : c.toNat % 128 < 128 := Nat.mod_lt _ (by decide)
        have h7 : IntKind.i64.wrap ((BitVec.ofInt IntKind.i64.bits (n : Int) ||| BitVec.ofInt IntKind.i64.bits (IntKind.i64.wrap (IntKind.i64.wrap (((c &&& Al.byteOf 127).toNat : Nat) : Int) * 2 ^ (min (7 * (i : Int)).toNat IntKind.i64.bits)))).toNat : Int) = ((n + c.toNat % 128 * 2 ^ (7 * i) : Nat) : Int) := by
          have e1 : IntKind.i64.wrap (((c.toNat % 128 : Nat) : Int)) = ((c.toNat % 128 : Nat) : Int) := IntWalk.i64_in _ (by omega)
          rw [h127, e1, shl_val hm128 hi, or_val hn hm128 hi]
        have hn' : n + c.toNat % 128 * 2 ^ (7 * i) < 2 ^ (7 * (i + 1)) := by
          have e : (2 : Nat) ^ (7 * (i + 1)) = 128 * 2 ^ (7 * i) := by rw [show 7 * (i + 1) = 7 * i + 7 by omega, Nat.pow_add, Nat.mul_comm]
          have := Nat.mul_le_mul_right (2 ^ (7 * i)) (show c.toNat % 128 ≤ 127 by omega)
          omega
        have hb56 : 2 ^ (7 * (i + 1)) ≤ 2 ^ 56 := Nat.pow_le_pow_right (by decide) (by omega)
        have e56 : (2 : Nat) ^ 56 = 72057594037927936 := by decide
        refine W.skip ?_
        show W _ _ _ _ _ _ _
        refine W.seq ?_
        refine W.regionL (by decide +kernel) rfl ?_
        apply r_op
        exact rfl
        exact rfl
        apply a_move
        (conv => (lhs; whnf))
        apply r_op
        exact rfl
        exact rfl
        apply a_move
        (conv => (lhs; whnf))
        apply r_op
        exact rfl
        exact rfl
        apply a_move
        (conv => (lhs; whnf))
        apply r_op
        exact rfl
        exact rfl
        apply g_binOp
        exact a_add64 rfl rfl (by omega)
        apply r_op
        exact rfl
        exact rfl
        apply g_indexAddr
        exact a_indexAddr rfl rfl (by decide) (by omega) (by exact get_map (by assumption))
        apply r_op
        exact rfl
        exact rfl
        apply g_load
        exact a_load1 rfl rfl
        apply r_op
        exact rfl
        exact rfl
        apply a_assign
        (conv => (lhs; whnf))
        with_reducible refine runs_done ?_
        refine W.seq ?_
        refine W.regionL (by decide +kernel) rfl ?_
        apply r_op
        exact rfl
        exact rfl
        apply a_move
        (conv => (lhs; whnf))
        apply r_op
        exact rfl
        exact rfl
        apply a_move
        (conv => (lhs; whnf))
        apply r_op
        exact rfl
        exact rfl
        apply g_binOp
        exact a_u8andC rfl rfl (by omega)
        apply r_op
        exact rfl
        exact rfl
        apply g_convert
        exact a_convI rfl
        apply r_op
        exact rfl
        exact rfl
        apply a_move
        (conv => (lhs; whnf))
        apply r_op
        exact rfl
        exact rfl
        apply g_binOp
        exact a_mul64 rfl rfl (by omega)
        apply r_op
        exact rfl
        exact rfl
        apply g_binOp
        exact a_binI rfl rfl rfl
        apply r_op
        exact rfl
        exact rfl
        apply g_binOp
        exact a_binI rfl rfl rfl
        apply r_op
        exact rfl
        exact rfl
        apply a_assign
        (conv => (lhs; whnf))
        with_reducible refine runs_done ?_
        refine W.seq ?_
        refine W.regionL (by decide +kernel) rfl ?_
        apply r_op
        exact rfl
        exact rfl
        apply a_move
        (conv => (lhs; whnf))
        apply r_op
        exact rfl
        exact rfl
        apply g_binOp
        exact a_u8andC rfl rfl (by omega)
        apply r_op
        exact rfl
        exact rfl
        apply g_binOp
        exact a_binI rfl rfl rfl
        with_reducible refine runs_done ?_
        refine W.has (l := [(0, .slc 1 (aBytes b) t), (1, .int .i64 a), (7, .int .i64 ((n + c.toNat % 128 * 2 ^ (7 * i) : Nat) : Int)), (8, .int .i64 i), (9, .int .u8 c.toNat), (44, .bool (decide ((((c &&& Al.byteOf 128).toNat : Nat) : Int) = 0)))]) (by exact Has.by (by repeat (first | exact trivial | refine ⟨by first | trivial | exact Weak.refl _ | exact Weak.tok _ _ _ | exact Weak.of_eq (congrArg (AV.int _) (by (first | exact h7 | omega))) | exact Weak.nils _ _ (.inr rfl), ?_⟩))) ?_
        generalize n + c.toNat % 128 * 2 ^ (7 * i) = m at hgn hn'
        have h128 := and128' c
        clear h7
        refine W.cond rfl (fun hc => ?_) (fun hc => ?_)
        · have hc1 : c.toNat < 128 := h128.1 (by have := of_decide_eq_true hc; omega)
          rw [if_pos hc1] at hgn
          have hm1 : m ≤ 72057594037927936 := by omega
          clear h128 hc hn' hb56 e56 hm128 h127
          refine W.seq ?_
          refine W.seq ?_
          refine W.regionL (by decide +kernel) rfl ?_
          apply r_op
          exact rfl
          exact rfl
          apply a_move
          (conv => (lhs; whnf))
          apply r_op
          exact rfl
          exact rfl
          apply g_binOp
          exact a_binI rfl rfl rfl
          apply r_op
          exact rfl
          exact rfl
          apply a_move
          (conv => (lhs; whnf))
          refine q_split rfl rfl rfl (fun hg => ?_) (fun hg => ?_)
          apply r_op
          exact rfl
          exact want_t rfl rfl rfl (by assumption)
          apply a_move
          (conv => (lhs; whnf))
          apply r_op
          exact rfl
          exact want_t rfl rfl rfl (by assumption)
          apply g_binOp
          exact a_binI rfl rfl rfl
          apply r_op
          exact rfl
          exact rfl
          apply g_pick
          apply a_pickT rfl (by assumption)
          (conv => (lhs; whnf))
          apply r_op
          exact rfl
          exact rfl
          apply a_move
          (conv => (lhs; whnf))
          refine q_split rfl rfl rfl (fun hg => ?_) (fun hg => ?_)
          apply q_skip
          exact rfl
          exact want_f rfl rfl rfl (by assumption)
          apply q_skip
          exact rfl
          exact want_f rfl rfl rfl (by assumption)
          apply r_op
          exact rfl
          exact rfl
          apply g_pick
          apply a_pickT rfl (by assumption)
          (conv => (lhs; whnf))
          with_reducible refine runs_done ?_
          refine W.condT rfl (by exact rfl) ?_
          rotate_left
          apply r_op
          exact rfl
          exact want_t rfl rfl rfl (by assumption)
          apply a_move
          (conv => (lhs; whnf))
          apply r_op
          exact rfl
          exact want_t rfl rfl rfl (by assumption)
          apply g_binOp
          exact a_binI rfl rfl rfl
          apply r_op
          exact rfl
          exact rfl
          apply g_pick
          apply a_pickF rfl (by assumption)
          (conv => (lhs; whnf))
          with_reducible refine runs_done ?_
          refine W.cond rfl (fun hc => ?_) (fun hc => ?_)
          rotate_left
          refine W.skip ?_
          show W _ _ _ _ _ _ _
          refine W.seq ?_
          refine W.regionL (by decide +kernel) rfl ?_
          apply r_op
          exact rfl
          exact rfl
          apply a_move
          (conv => (lhs; whnf))
          apply r_op
          exact rfl
          exact rfl
          apply a_move
          (conv => (lhs; whnf))
          apply r_op
          exact rfl
          exact rfl
          apply a_move
          (conv => (lhs; whnf))
          apply r_op
          exact rfl
          exact rfl
          apply g_binOp
          exact a_add64 rfl rfl (by omega)
          apply r_op
          exact rfl
          exact rfl
          apply g_binOp
          exact a_add64 rfl rfl (by omega)
          apply r_op
          exact rfl
          exact rfl
          apply a_assign
          (conv => (lhs; whnf))
          apply r_op
          exact rfl
          exact rfl
          apply a_assign
          (conv => (lhs; whnf))
          apply r_op
          exact rfl
          exact rfl
          apply a_assign
          (conv => (lhs; whnf))
          with_reducible refine runs_done ?_
          refine W.ret ?_
          show Q Exit.ret _ _
          refine post_q hQ (by apply res_tmp; exact rfl; apply res_tmp; exact rfl; apply res_tmp; exact rfl; exact res_nil) (.inl rfl) (by exact .refl _) ?_
          (conv => (lhs; whnf))
          rotate_left
          apply q_skip
          exact rfl
          exact want_f rfl rfl rfl (by assumption)
          apply q_skip
          exact rfl
          exact want_f rfl rfl rfl (by assumption)
          apply r_op
          exact rfl
          exact rfl
          apply g_pick
          apply a_pickF rfl (by assumption)
          (conv => (lhs; whnf))
          apply r_op
          exact rfl
          exact rfl
          apply a_move
          (conv => (lhs; whnf))
          apply r_op
          exact rfl
          exact rfl
          apply a_move
          (conv => (lhs; whnf))
          apply r_op
          exact rfl
          exact rfl
          apply g_binOp
          exact a_binI rfl rfl rfl
          apply r_op
          exact rfl
          exact rfl
          apply g_pick
          apply a_pickF rfl (by exact rfl)
          (conv => (lhs; whnf))
          with_reducible refine runs_done ?_
          refine W.cond rfl (fun hc => ?_) (fun hc => ?_)
          rotate_left
          refine W.skip ?_
          show W _ _ _ _ _ _ _
          refine W.seq ?_
          refine W.regionL (by decide +kernel) rfl ?_
          apply r_op
          exact rfl
          exact rfl
          apply a_move
          (conv => (lhs; whnf))
          apply r_op
          exact rfl
          exact rfl
          apply a_move
          (conv => (lhs; whnf))
          apply r_op
          exact rfl
          exact rfl
          apply a_move
          (conv => (lhs; whnf))
          apply r_op
          exact rfl
          exact rfl
          apply g_binOp
          exact a_add64 rfl rfl (by omega)
          apply r_op
          exact rfl
          exact rfl
          apply g_binOp
          exact a_add64 rfl rfl (by omega)
          apply r_op
          exact rfl
          exact rfl
          apply a_assign
          (conv => (lhs; whnf))
          apply r_op
          exact rfl
          exact rfl
          apply a_assign
          (conv => (lhs; whnf))
          apply r_op
          exact rfl
          exact rfl
          apply a_assign
          (conv => (lhs; whnf))
          with_reducible refine runs_done ?_
          refine W.ret ?_
          show Q Exit.ret _ _
          refine post_q hQ (by apply res_tmp; exact rfl; apply res_tmp; exact rfl; apply res_tmp; exact rfl; exact res_nil) (.inl rfl) (by exact .refl _) ?_
          (conv => (lhs; whnf))
          rotate_left
          all_goals try (refine W.goto ?_; refine ⟨_, rfl, ?_⟩; show W _ _ _ _ _ _ _; repeat' (first | ((refine W.seq ?_; (first | ((refine W.regionL (by decide +kernel) rfl ?_; (repeat' (first | (apply r_callP; (focus (exact rfl)); (focus (exact rfl)); (focus (first | exact rfl | exact want_t rfl rfl rfl (by first | exact rfl | assumption | (simp [Nat.reduceEqDiff]; done) | fail) | fail)); (focus (exact rfl)); (focus (exact rfl)); (focus (infer_instance)); (focus (fail))) | (apply r_load; (focus (exact rfl)); (focus (exact rfl)); (focus (exact rfl)); (focus (decide)); (focus (first | exact rfl | exact want_t rfl rfl rfl (by first | exact rfl | assumption | (simp [Nat.reduceEqDiff]; done) | fail) | fail)); (focus (first | (first | exact setBox_same | assumption) | ((first | apply hb_ne (by first | assumption | exact ne_none' (by first | assumption | exact none_in (by assumption) | exact none_in (none_in (by assumption)) | exact none_in (none_in (none_in (by assumption))) | exact none_moves (by assumption) (by assumption) | exact none_moves (by assumption) (none_in (by assumption)) | exact none_in (none_moves (by assumption) (by assumption)) | exact none_in (none_in (none_moves (by assumption) (by assumption))) | fail) | exact ne_none (by first | assumption | exact none_in (by assumption) | exact none_in (none_in (by assumption)) | exact none_in (none_in (none_in (by assumption))) | exact none_moves (by assumption) (by assumption) | exact none_moves (by assumption) (none_in (by assumption)) | exact none_in (none_moves (by assumption) (by assumption)) | exact none_in (none_in (none_moves (by assumption) (by assumption))) | fail) | exact Ne.symm (by assumption) | exact ne_some (by assumption) (by assumption) | fail) | apply hb_moves (by assumption)); first | (first | exact setBox_same | assumption) | ((first | apply hb_ne (by first | assumption | exact ne_none' (by first | assumption | exact none_in (by assumption) | exact none_in (none_in (by assumption)) | exact none_in (none_in (none_in (by assumption))) | exact none_moves (by assumption) (by assumption) | exact none_moves (by assumption) (none_in (by assumption)) | exact none_in (none_moves (by assumption) (by assumption)) | exact none_in (none_in (none_moves (by assumption) (by assumption))) | fail) | exact ne_none (by first | assumption | exact none_in (by assumption) | exact none_in (none_in (by assumption)) | exact none_in (none_in (none_in (by assumption))) | exact none_moves (by assumption) (by assumption) | exact none_moves (by assumption) (none_in (by assumption)) | exact none_in (none_moves (by assumption) (by assumption)) | exact none_in (none_in (none_moves (by assumption) (by assumption))) | fail) | exact Ne.symm (by assumption) | exact ne_some (by assumption) (by assumption) | fail) | apply hb_moves (by assumption)); first | (first | exact setBox_same | assumption) | ((first | apply hb_ne (by first | assumption | exact ne_none' (by first | assumption | exact none_in (by assumption) | exact none_in (none_in (by assumption)) | exact none_in (none_in (none_in (by assumption))) | exact none_moves (by assumption) (by assumption) | exact none_moves (by assumption) (none_in (by assumption)) | exact none_in (none_moves (by assumption) (by assumption)) | exact none_in (none_in (none_moves (by assumption) (by assumption))) | fail) | exact ne_none (by first | assumption | exact none_in (by assumption) | exact none_in (none_in (by assumption)) | exact none_in (none_in (none_in (by assumption))) | exact none_moves (by assumption) (by assumption) | exact none_moves (by assumption) (none_in (by assumption)) | exact none_in (none_moves (by assumption) (by assumption)) | exact none_in (none_in (none_moves (by assumption) (by assumption))) | fail) | exact Ne.symm (by assumption) | exact ne_some (by assumption) (by assumption) | fail) | apply hb_moves (by assumption)); first | (first | exact setBox_same | assumption) | ((first | apply hb_ne (by first | assumption | exact ne_none' (by first | assumption | exact none_in (by assumption) | exact none_in (none_in (by assumption)) | exact none_in (none_in (none_in (by assumption))) | exact none_moves (by assumption) (by assumption) | exact none_moves (by assumption) (none_in (by assumption)) | exact none_in (none_moves (by assumption) (by assumption)) | exact none_in (none_in (none_moves (by assumption) (by assumption))) | fail) | exact ne_none (by first | assumption | exact none_in (by assumption) | exact none_in (none_in (by assumption)) | exact none_in (none_in (none_in (by assumption))) | exact none_moves (by assumption) (by assumption) | exact none_moves (by assumption) (none_in (by assumption)) | exact none_in (none_moves (by assumption) (by assumption)) | exact none_in (none_in (none_moves (by assumption) (by assumption))) | fail) | exact Ne.symm (by assumption) | exact ne_some (by assumption) (by assumption) | fail) | apply hb_moves (by assumption)); first | (first | exact setBox_same | assumption) | ((first | apply hb_ne (by first | assumption | exact ne_none' (by first | assumption | exact none_in (by assumption) | exact none_in (none_in (by assumption)) | exact none_in (none_in (none_in (by assumption))) | exact none_moves (by assumption) (by assumption) | exact none_moves (by assumption) (none_in (by assumption)) | exact none_in (none_moves (by assumption) (by assumption)) | exact none_in (none_in (none_moves (by assumption) (by assumption))) | fail) | exact ne_none (by first | assumption | exact none_in (by assumption) | exact none_in (none_in (by assumption)) | exact none_in (none_in (none_in (by assumption))) | exact none_moves (by assumption) (by assumption) | exact none_moves (by assumption) (none_in (by assumption)) | exact none_in (none_moves (by assumption) (by assumption)) | exact none_in (none_in (none_moves (by assumption) (by assumption))) | fail) | exact Ne.symm (by assumption) | exact ne_some (by assumption) (by assumption) | fail) | apply hb_moves (by assumption)); first | (first | exact setBox_same | assumption) | ((first | apply hb_ne (by first | assumption | exact ne_none' (by first | assumption | exact none_in (by assumption) | exact none_in (none_in (by assumption)) | exact none_in (none_in (none_in (by assumption))) | exact none_moves (by assumption) (by assumption) | exact none_moves (by assumption) (none_in (by assumption)) | exact none_in (none_moves (by assumption) (by assumption)) | exact none_in (none_in (none_moves (by assumption) (by assumption))) | fail) | exact ne_none (by first | assumption | exact none_in (by assumption) | exact none_in (none_in (by assumption)) | exact none_in (none_in (none_in (by assumption))) | exact none_moves (by assumption) (by assumption) | exact none_moves (by assumption) (none_in (by assumption)) | exact none_in (none_moves (by assumption) (by assumption)) | exact none_in (none_in (none_moves (by assumption) (by assumption))) | fail) | exact Ne.symm (by assumption) | exact ne_some (by assumption) (by assumption) | fail) | apply hb_moves (by assumption)); first | (first | exact setBox_same | assumption) | fail) | fail) | fail) | fail) | fail) | fail) | fail)); (focus (first | exact aLoad1 rfl | exact aLoadA rfl (by rfl) rfl | fail))) | (apply r_allocN; (focus (exact rfl)); (focus (exact rfl)); (focus (decide)); (focus (infer_instance)); (focus (first | exact rfl | exact want_t rfl rfl rfl (by first | exact rfl | assumption | (simp [Nat.reduceEqDiff]; done) | fail) | fail)); (focus (exact rfl)); intro b1 hb1) | (apply r_alloc; (focus (exact rfl)); (focus (exact rfl)); (focus (decide)); (focus (first | exact rfl | exact want_t rfl rfl rfl (by first | exact rfl | assumption | (simp [Nat.reduceEqDiff]; done) | fail) | fail)); (focus (conv => (lhs; whnf))); intro b1 hb1) | (apply r_boxF; (focus (exact rfl)); (focus (exact rfl)); (focus (first | exact rfl | exact want_t rfl rfl rfl (by first | exact rfl | assumption | (simp [Nat.reduceEqDiff]; done) | fail) | fail)); (focus (conv => (lhs; whnf))); (focus (exact rfl))) | (apply r_box; (focus (exact rfl)); (focus (exact rfl)); (focus (decide)); (focus (first | exact rfl | exact want_t rfl rfl rfl (by first | exact rfl | assumption | (simp [Nat.reduceEqDiff]; done) | fail) | fail)); (focus (conv => (lhs; whnf))); (focus (exact rfl)); (focus (conv => (lhs; whnf))); intro b1 hb1) | (apply r_store; (focus (exact rfl)); (focus (exact rfl)); (focus (exact rfl)); (focus (decide)); (focus (infer_instance)); (focus (first | exact rfl | exact want_t rfl rfl rfl (by first | exact rfl | assumption | (simp [Nat.reduceEqDiff]; done) | fail) | fail)); (focus (first | (first | exact setBox_same | assumption) | ((first | apply hb_ne (by first | assumption | exact ne_none' (by first | assumption | exact none_in (by assumption) | exact none_in (none_in (by assumption)) | exact none_in (none_in (none_in (by assumption))) | exact none_moves (by assumption) (by assumption) | exact none_moves (by assumption) (none_in (by assumption)) | exact none_in (none_moves (by assumption) (by assumption)) | exact none_in (none_in (none_moves (by assumption) (by assumption))) | fail) | exact ne_none (by first | assumption | exact none_in (by assumption) | exact none_in (none_in (by assumption)) | exact none_in (none_in (none_in (by assumption))) | exact none_moves (by assumption) (by assumption) | exact none_moves (by assumption) (none_in (by assumption)) | exact none_in (none_moves (by assumption) (by assumption)) | exact none_in (none_in (none_moves (by assumption) (by assumption))) | fail) | exact Ne.symm (by assumption) | exact ne_some (by assumption) (by assumption) | fail) | apply hb_moves (by assumption)); first | (first | exact setBox_same | assumption) | ((first | apply hb_ne (by first | assumption | exact ne_none' (by first | assumption | exact none_in (by assumption) | exact none_in (none_in (by assumption)) | exact none_in (none_in (none_in (by assumption))) | exact none_moves (by assumption) (by assumption) | exact none_moves (by assumption) (none_in (by assumption)) | exact none_in (none_moves (by assumption) (by assumption)) | exact none_in (none_in (none_moves (by assumption) (by assumption))) | fail) | exact ne_none (by first | assumption | exact none_in (by assumption) | exact none_in (none_in (by assumption)) | exact none_in (none_in (none_in (by assumption))) | exact none_moves (by assumption) (by assumption) | exact none_moves (by assumption) (none_in (by assumption)) | exact none_in (none_moves (by assumption) (by assumption)) | exact none_in (none_in (none_moves (by assumption) (by assumption))) | fail) | exact Ne.symm (by assumption) | exact ne_some (by assumption) (by assumption) | fail) | apply hb_moves (by assumption)); first | (first | exact setBox_same | assumption) | ((first | apply hb_ne (by first | assumption | exact ne_none' (by first | assumption | exact none_in (by assumption) | exact none_in (none_in (by assumption)) | exact none_in (none_in (none_in (by assumption))) | exact none_moves (by assumption) (by assumption) | exact none_moves (by assumption) (none_in (by assumption)) | exact none_in (none_moves (by assumption) (by assumption)) | exact none_in (none_in (none_moves (by assumption) (by assumption))) | fail) | exact ne_none (by first | assumption | exact none_in (by assumption) | exact none_in (none_in (by assumption)) | exact none_in (none_in (none_in (by assumption))) | exact none_moves (by assumption) (by assumption) | exact none_moves (by assumption) (none_in (by assumption)) | exact none_in (none_moves (by assumption) (by assumption)) | exact none_in (none_in (none_moves (by assumption) (by assumption))) | fail) | exact Ne.symm (by assumption) | exact ne_some (by assumption) (by assumption) | fail) | apply hb_moves (by assumption)); first | (first | exact setBox_same | assumption) | ((first | apply hb_ne (by first | assumption | exact ne_none' (by first | assumption | exact none_in (by assumption) | exact none_in (none_in (by assumption)) | exact none_in (none_in (none_in (by assumption))) | exact none_moves (by assumption) (by assumption) | exact none_moves (by assumption) (none_in (by assumption)) | exact none_in (none_moves (by assumption) (by assumption)) | exact none_in (none_in (none_moves (by assumption) (by assumption))) | fail) | exact ne_none (by first | assumption | exact none_in (by assumption) | exact none_in (none_in (by assumption)) | exact none_in (none_in (none_in (by assumption))) | exact none_moves (by assumption) (by assumption) | exact none_moves (by assumption) (none_in (by assumption)) | exact none_in (none_moves (by assumption) (by assumption)) | exact none_in (none_in (none_moves (by assumption) (by assumption))) | fail) | exact Ne.symm (by assumption) | exact ne_some (by assumption) (by assumption) | fail) | apply hb_moves (by assumption)); first | (first | exact setBox_same | assumption) | ((first | apply hb_ne (by first | assumption | exact ne_none' (by first | assumption | exact none_in (by assumption) | exact none_in (none_in (by assumption)) | exact none_in (none_in (none_in (by assumption))) | exact none_moves (by assumption) (by assumption) | exact none_moves (by assumption) (none_in (by assumption)) | exact none_in (none_moves (by assumption) (by assumption)) | exact none_in (none_in (none_moves (by assumption) (by assumption))) | fail) | exact ne_none (by first | assumption | exact none_in (by assumption) | exact none_in (none_in (by assumption)) | exact none_in (none_in (none_in (by assumption))) | exact none_moves (by assumption) (by assumption) | exact none_moves (by assumption) (none_in (by assumption)) | exact none_in (none_moves (by assumption) (by assumption)) | exact none_in (none_in (none_moves (by assumption) (by assumption))) | fail) | exact Ne.symm (by assumption) | exact ne_some (by assumption) (by assumption) | fail) | apply hb_moves (by assumption)); first | (first | exact setBox_same | assumption) | ((first | apply hb_ne (by first | assumption | exact ne_none' (by first | assumption | exact none_in (by assumption) | exact none_in (none_in (by assumption)) | exact none_in (none_in (none_in (by assumption))) | exact none_moves (by assumption) (by assumption) | exact none_moves (by assumption) (none_in (by assumption)) | exact none_in (none_moves (by assumption) (by assumption)) | exact none_in (none_in (none_moves (by assumption) (by assumption))) | fail) | exact ne_none (by first | assumption | exact none_in (by assumption) | exact none_in (none_in (by assumption)) | exact none_in (none_in (none_in (by assumption))) | exact none_moves (by assumption) (by assumption) | exact none_moves (by assumption) (none_in (by assumption)) | exact none_in (none_moves (by assumption) (by assumption)) | exact none_in (none_in (none_moves (by assumption) (by assumption))) | fail) | exact Ne.symm (by assumption) | exact ne_some (by assumption) (by assumption) | fail) | apply hb_moves (by assumption)); first | (first | exact setBox_same | assumption) | fail) | fail) | fail) | fail) | fail) | fail) | fail)); (focus (conv => (lhs; whnf))); (focus (exact rfl)); (focus (conv => (lhs; whnf))); (focus (exact rfl)); (focus (exact of_decide_eq_true rfl)); (focus (first | exact setL_whole rfl | exact setL_one | exact rfl))) | (apply r_callM; (focus (exact rfl)); (focus (exact rfl)); (focus (decide)); (focus (first | exact rfl | exact want_t rfl rfl rfl (by first | exact rfl | assumption | (simp [Nat.reduceEqDiff]; done) | fail) | fail)); (focus (exact rfl)); (focus (exact rfl)); (focus (infer_instance)); (focus (fail)); intro tk1 σ1 hm) | fail | (apply r_append'; (focus (exact rfl)); (focus (exact rfl)); (focus (decide)); (focus (infer_instance)); (focus (first | exact rfl | exact want_t rfl rfl rfl (by first | exact rfl | assumption | (simp [Nat.reduceEqDiff]; done) | fail) | fail)); (focus (exact rfl)); (focus (exact rfl)); (focus (exact rfl)); (focus (exact rfl)); (focus (first | assumption | exact Moves.more (by assumption) (by assumption) | fail)); (focus (first | (simp only [length_aBytes, List.length_append, List.length_cons, List.length_nil, List.length_map, List.length_range]; omega) | omega | fail)); intro tk1 σ1 hm) | (apply r_append; (focus (exact rfl)); (focus (exact rfl)); (focus (decide)); (focus (infer_instance)); (focus (first | exact rfl | exact want_t rfl rfl rfl (by first | exact rfl | assumption | (simp [Nat.reduceEqDiff]; done) | fail) | fail)); (focus (exact rfl)); (focus (exact rfl)); (focus (exact rfl)); (focus (exact rfl)); (focus (exact .inl rfl)); (focus (first | (simp only [length_aBytes, List.length_append, List.length_cons, List.length_nil, List.length_map, List.length_range]; omega) | omega | fail)); intro tk1 σ1 hm) | (apply r_op; (focus (exact rfl)); (focus (first | exact rfl | exact want_t rfl rfl rfl (by first | exact rfl | assumption | (simp [Nat.reduceEqDiff]; done) | fail) | fail)); (focus (first | (apply a_move; conv => (lhs; whnf)) | (apply a_assign; conv => (lhs; whnf)) | (apply g_load; first | exact a_load1 rfl rfl | exact a_loadA rfl (by rfl) rfl | fail) | (apply g_fieldAddr; first | exact a_fieldAddr1 rfl (by decide) rfl | exact a_fieldAddrA rfl (by decide) | exact a_fieldAddrP rfl (by decide) | fail) | (apply g_call; first | exact a_len_slc rfl | exact a_len_str rfl | exact a_len_nils rfl | exact a_min rfl rfl | exact a_max rfl rfl | fail) | (apply g_binOp; first | exact a_add64 rfl rfl (by first | omega | (simp only [List.length_cons, List.length_append, List.length_nil, List.length_map, length_aBytes, List.length_replicate, List.length_range]; omega) | fail) | exact a_sub64 rfl rfl (by first | omega | (simp only [List.length_cons, List.length_append, List.length_nil, List.length_map, length_aBytes, List.length_replicate, List.length_range]; omega) | fail) | exact a_mul64 rfl rfl (by first | omega | (simp only [List.length_cons, List.length_append, List.length_nil, List.length_map, length_aBytes, List.length_replicate, List.length_range]; omega) | fail) | exact a_quo64 rfl rfl (by first | omega | (simp only [List.length_cons, List.length_append, List.length_nil, List.length_map, length_aBytes, List.length_replicate, List.length_range]; omega) | fail) | exact a_rem rfl rfl (by first | omega | (simp only [List.length_cons, List.length_append, List.length_nil, List.length_map, length_aBytes, List.length_replicate, List.length_range]; omega) | fail) | (apply a_shr rfl rfl (by first | omega | (simp only [List.length_cons, List.length_append, List.length_nil, List.length_map, length_aBytes, List.length_replicate, List.length_range]; omega) | fail); conv => (lhs; whnf)) | exact a_u8add rfl rfl | exact a_u8sub rfl rfl | exact a_u8or rfl rfl | exact a_u8and rfl rfl | exact a_u8orC rfl rfl (by first | omega | (simp only [List.length_cons, List.length_append, List.length_nil, List.length_map, length_aBytes, List.length_replicate, List.length_range]; omega) | fail) | exact a_u8andC rfl rfl (by first | omega | (simp only [List.length_cons, List.length_append, List.length_nil, List.length_map, length_aBytes, List.length_replicate, List.length_range]; omega) | fail) | exact a_binI rfl rfl rfl | exact a_addS rfl rfl (by first | (simp only [length_aBytes, List.length_append, List.length_cons, List.length_nil, List.length_map, List.length_range]; omega) | omega | fail) | exact a_binS rfl rfl rfl rfl | exact a_binB rfl rfl rfl | exact a_nilS rfl rfl rfl rfl rfl rfl | exact a_nilP rfl rfl rfl rfl rfl rfl | exact a_nilF rfl rfl rfl rfl rfl rfl | fail | fail) | (apply g_indexAddr; first | exact a_indexAddr rfl rfl (by decide) (by first | omega | (simp only [List.length_cons, List.length_append, List.length_nil, List.length_map, length_aBytes, List.length_replicate, List.length_range]; omega) | fail) (by first | assumption | exact get_map (by assumption) | exact get_bytes (by assumption) | fail) | exact a_indexAddrR rfl rfl (by first | omega | (simp only [List.length_cons, List.length_append, List.length_nil, List.length_map, length_aBytes, List.length_replicate, List.length_range]; omega) | fail) | exact a_indexAddrM rfl rfl (by first | omega | (simp only [List.length_cons, List.length_append, List.length_nil, List.length_map, length_aBytes, List.length_replicate, List.length_range]; omega) | fail) | fail) | (apply g_index; first | exact a_indexS rfl rfl (by first | omega | (simp only [List.length_cons, List.length_append, List.length_nil, List.length_map, length_aBytes, List.length_replicate, List.length_range]; omega) | fail) (by first | assumption | exact get_map (by assumption) | exact get_bytes (by assumption) | fail) | fail) | (apply g_convert; first | exact a_convB rfl | exact a_convI rfl | exact a_bytesStr rfl | exact a_bytesStrX rfl (by repeat (first | exact toB_nil | apply toB_cons | apply toB_consC _ (by first | omega | (simp only [List.length_cons, List.length_append, List.length_nil, List.length_map, length_aBytes, List.length_replicate, List.length_range]; omega) | fail))) | exact a_nilsStr rfl | exact a_strBytes rfl (by first | (simp only [length_aBytes, List.length_append, List.length_cons, List.length_nil, List.length_map, List.length_range]; omega) | omega | fail) | fail) | (apply g_buildSlice; first | (apply a_build1; (conv => (lhs; whnf)); exact rfl; exact rfl; decide) | exact a_build1 rfl rfl (by rfl) (by decide) | (apply a_buildN; (focus (repeat (first | exact EvP.nil | apply EvP.cons (by conv => (lhs; whnf))))); (focus (conv => (lhs; whnf))); (focus exact rfl); (focus exact rfl); decide) | fail) | (apply g_build; first | (apply a_build; (focus (repeat (first | exact EvP.nil | apply EvP.cons (by conv => (lhs; whnf))))); (focus (simp only [aFill, List.getElem?_cons_zero, List.getElem?_cons_succ, AV.cells, List.length_cons, List.length_nil, AV.flat, AV.one, setL, List.set_cons_zero, List.set_cons_succ, Nat.reduceAdd, Nat.reduceLeDiff, Nat.reduceMul, and_self, if_true, ↓reduceIte, Nat.zero_add, Nat.le_refl, List.range, List.range.loop, List.map_cons, List.map_nil, Nat.zero_le]; rfl))) | fail) | (apply g_pick; first | (apply a_pickT rfl (by first | exact rfl | assumption | fail); conv => (lhs; whnf)) | (apply a_pickF rfl (by first | exact rfl | assumption | fail); conv => (lhs; whnf)) | exact a_pick rfl rfl rfl | fail) | (apply g_unOp; first | exact a_not rfl | exact a_neg64 rfl (by first | omega | (simp only [List.length_cons, List.length_append, List.length_nil, List.length_map, length_aBytes, List.length_replicate, List.length_range]; omega) | fail) | fail) | (apply g_nilCheck; first | exact a_nilCheck rfl rfl | fail) | (apply g_extract; first | exact a_extract rfl rfl | fail) | (apply g_field; first | exact a_field1 rfl rfl | exact a_fieldA rfl | fail) | (apply g_slice; first | exact a_sliceS rfl rfl rfl (by first | omega | (simp only [List.length_cons, List.length_append, List.length_nil, List.length_map, length_aBytes, List.length_replicate, List.length_range]; omega) | fail) | fail | exact a_sliceL rfl rfl rfl (by first | omega | (simp only [List.length_cons, List.length_append, List.length_nil, List.length_map, length_aBytes, List.length_replicate, List.length_range]; omega) | fail) | fail) | exact a_makeFunc rfl rfl | fail | fail | fail))) | (apply q_skip; (focus (exact rfl)); (focus (first | exact want_f rfl rfl rfl (by first | exact rfl | assumption | (simp [Nat.reduceEqDiff]; done) | fail) | fail))) | refine q_split rfl rfl rfl (fun hg => ?_) (fun hg => ?_) | fail))) <;> refine runs_done ?_) | (((first | refine W.regionDK 1 [] Ty.mixed (by decide +kernel) (by decide +kernel) rfl ?_ | refine W.regionDK 0 [] Ty.mixed (by decide +kernel) (by decide +kernel) rfl ?_ | fail); (repeat' (first | (apply r_callP; (focus (exact rfl)); (focus (exact rfl)); (focus (first | exact rfl | exact want_t rfl rfl rfl (by first | exact rfl | assumption | (simp [Nat.reduceEqDiff]; done) | fail) | fail)); (focus (exact rfl)); (focus (exact rfl)); (focus (infer_instance)); (focus (fail))) | (apply r_load; (focus (exact rfl)); (focus (exact rfl)); (focus (exact rfl)); (focus (decide)); (focus (first | exact rfl | exact want_t rfl rfl rfl (by first | exact rfl | assumption | (simp [Nat.reduceEqDiff]; done) | fail) | fail)); (focus (first | (first | exact setBox_same | assumption) | ((first | apply hb_ne (by first | assumption | exact ne_none' (by first | assumption | exact none_in (by assumption) | exact none_in (none_in (by assumption)) | exact none_in (none_in (none_in (by assumption))) | exact none_moves (by assumption) (by assumption) | exact none_moves (by assumption) (none_in (by assumption)) | exact none_in (none_moves (by assumption) (by assumption)) | exact none_in (none_in (none_moves (by assumption) (by assumption))) | fail) | exact ne_none (by first | assumption | exact none_in (by assumption) | exact none_in (none_in (by assumption)) | exact none_in (none_in (none_in (by assumption))) | exact none_moves (by assumption) (by assumption) | exact none_moves (by assumption) (none_in (by assumption)) | exact none_in (none_moves (by assumption) (by assumption)) | exact none_in (none_in (none_moves (by assumption) (by assumption))) | fail) | exact Ne.symm (by assumption) | exact ne_some (by assumption) (by assumption) | fail) | apply hb_moves (by assumption)); first | (first | exact setBox_same | assumption) | ((first | apply hb_ne (by first | assumption | exact ne_none' (by first | assumption | exact none_in (by assumption) | exact none_in (none_in (by assumption)) | exact none_in (none_in (none_in (by assumption))) | exact none_moves (by assumption) (by assumption) | exact none_moves (by assumption) (none_in (by assumption)) | exact none_in (none_moves (by assumption) (by assumption)) | exact none_in (none_in (none_moves (by assumption) (by assumption))) | fail) | exact ne_none (by first | assumption | exact none_in (by assumption) | exact none_in (none_in (by assumption)) | exact none_in (none_in (none_in (by assumption))) | exact none_moves (by assumption) (by assumption) | exact none_moves (by assumption) (none_in (by assumption)) | exact none_in (none_moves (by assumption) (by assumption)) | exact none_in (none_in (none_moves (by assumption) (by assumption))) | fail) | exact Ne.symm (by assumption) | exact ne_some (by assumption) (by assumption) | fail) | apply hb_moves (by assumption)); first | (first | exact setBox_same | assumption) | ((first | apply hb_ne (by first | assumption | exact ne_none' (by first | assumption | exact none_in (by assumption) | exact none_in (none_in (by assumption)) | exact none_in (none_in (none_in (by assumption))) | exact none_moves (by assumption) (by assumption) | exact none_moves (by assumption) (none_in (by assumption)) | exact none_in (none_moves (by assumption) (by assumption)) | exact none_in (none_in (none_moves (by assumption) (by assumption))) | fail) | exact ne_none (by first | assumption | exact none_in (by assumption) | exact none_in (none_in (by assumption)) | exact none_in (none_in (none_in (by assumption))) | exact none_moves (by assumption) (by assumption) | exact none_moves (by assumption) (none_in (by assumption)) | exact none_in (none_moves (by assumption) (by assumption)) | exact none_in (none_in (none_moves (by assumption) (by assumption))) | fail) | exact Ne.symm (by assumption) | exact ne_some (by assumption) (by assumption) | fail) | apply hb_moves (by assumption)); first | (first | exact setBox_same | assumption) | ((first | apply hb_ne (by first | assumption | exact ne_none' (by first | assumption | exact none_in (by assumption) | exact none_in (none_in (by assumption)) | exact none_in (none_in (none_in (by assumption))) | exact none_moves (by assumption) (by assumption) | exact none_moves (by assumption) (none_in (by assumption)) | exact none_in (none_moves (by assumption) (by assumption)) | exact none_in (none_in (none_moves (by assumption) (by assumption))) | fail) | exact ne_none (by first | assumption | exact none_in (by assumption) | exact none_in (none_in (by assumption)) | exact none_in (none_in (none_in (by assumption))) | exact none_moves (by assumption) (by assumption) | exact none_moves (by assumption) (none_in (by assumption)) | exact none_in (none_moves (by assumption) (by assumption)) | exact none_in (none_in (none_moves (by assumption) (by assumption))) | fail) | exact Ne.symm (by assumption) | exact ne_some (by assumption) (by assumption) | fail) | apply hb_moves (by assumption)); first | (first | exact setBox_same | assumption) | ((first | apply hb_ne (by first | assumption | exact ne_none' (by first | assumption | exact none_in (by assumption) | exact none_in (none_in (by assumption)) | exact none_in (none_in (none_in (by assumption))) | exact none_moves (by assumption) (by assumption) | exact none_moves (by assumption) (none_in (by assumption)) | exact none_in (none_moves (by assumption) (by assumption)) | exact none_in (none_in (none_moves (by assumption) (by assumption))) | fail) | exact ne_none (by first | assumption | exact none_in (by assumption) | exact none_in (none_in (by assumption)) | exact none_in (none_in (none_in (by assumption))) | exact none_moves (by assumption) (by assumption) | exact none_moves (by assumption) (none_in (by assumption)) | exact none_in (none_moves (by assumption) (by assumption)) | exact none_in (none_in (none_moves (by assumption) (by assumption))) | fail) | exact Ne.symm (by assumption) | exact ne_some (by assumption) (by assumption) | fail) | apply hb_moves (by assumption)); first | (first | exact setBox_same | assumption) | ((first | apply hb_ne (by first | assumption | exact ne_none' (by first | assumption | exact none_in (by assumption) | exact none_in (none_in (by assumption)) | exact none_in (none_in (none_in (by assumption))) | exact none_moves (by assumption) (by assumption) | exact none_moves (by assumption) (none_in (by assumption)) | exact none_in (none_moves (by assumption) (by assumption)) | exact none_in (none_in (none_moves (by assumption) (by assumption))) | fail) | exact ne_none (by first | assumption | exact none_in (by assumption) | exact none_in (none_in (by assumption)) | exact none_in (none_in (none_in (by assumption))) | exact none_moves (by assumption) (by assumption) | exact none_moves (by assumption) (none_in (by assumption)) | exact none_in (none_moves (by assumption) (by assumption)) | exact none_in (none_in (none_moves (by assumption) (by assumption))) | fail) | exact Ne.symm (by assumption) | exact ne_some (by assumption) (by assumption) | fail) | apply hb_moves (by assumption)); first | (first | exact setBox_same | assumption) | fail) | fail) | fail) | fail) | fail) | fail) | fail)); (focus (first | exact aLoad1 rfl | exact aLoadA rfl (by rfl) rfl | fail))) | (apply r_allocN; (focus (exact rfl)); (focus (exact rfl)); (focus (decide)); (focus (infer_instance)); (focus (first | exact rfl | exact want_t rfl rfl rfl (by first | exact rfl | assumption | (simp [Nat.reduceEqDiff]; done) | fail) | fail)); (focus (exact rfl)); intro b1 hb1) | (apply r_alloc; (focus (exact rfl)); (focus (exact rfl)); (focus (decide)); (focus (first | exact rfl | exact want_t rfl rfl rfl (by first | exact rfl | assumption | (simp [Nat.reduceEqDiff]; done) | fail) | fail)); (focus (conv => (lhs; whnf))); intro b1 hb1) | (apply r_boxF; (focus (exact rfl)); (focus (exact rfl)); (focus (first | exact rfl | exact want_t rfl rfl rfl (by first | exact rfl | assumption | (simp [Nat.reduceEqDiff]; done) | fail) | fail)); (focus (conv => (lhs; whnf))); (focus (exact rfl))) | (apply r_box; (focus (exact rfl)); (focus (exact rfl)); (focus (decide)); (focus (first | exact rfl | exact want_t rfl rfl rfl (by first | exact rfl | assumption | (simp [Nat.reduceEqDiff]; done) | fail) | fail)); (focus (conv => (lhs; whnf))); (focus (exact rfl)); (focus (conv => (lhs; whnf))); intro b1 hb1) | (apply r_store; (focus (exact rfl)); (focus (exact rfl)); (focus (exact rfl)); (focus (decide)); (focus (infer_instance)); (focus (first | exact rfl | exact want_t rfl rfl rfl (by first | exact rfl | assumption | (simp [Nat.reduceEqDiff]; done) | fail) | fail)); (focus (first | (first | exact setBox_same | assumption) | ((first | apply hb_ne (by first | assumption | exact ne_none' (by first | assumption | exact none_in (by assumption) | exact none_in (none_in (by assumption)) | exact none_in (none_in (none_in (by assumption))) | exact none_moves (by assumption) (by assumption) | exact none_moves (by assumption) (none_in (by assumption)) | exact none_in (none_moves (by assumption) (by assumption)) | exact none_in (none_in (none_moves (by assumption) (by assumption))) | fail) | exact ne_none (by first | assumption | exact none_in (by assumption) | exact none_in (none_in (by assumption)) | exact none_in (none_in (none_in (by assumption))) | exact none_moves (by assumption) (by assumption) | exact none_moves (by assumption) (none_in (by assumption)) | exact none_in (none_moves (by assumption) (by assumption)) | exact none_in (none_in (none_moves (by assumption) (by assumption))) | fail) | exact Ne.symm (by assumption) | exact ne_some (by assumption) (by assumption) | fail) | apply hb_moves (by assumption)); first | (first | exact setBox_same | assumption) | ((first | apply hb_ne (by first | assumption | exact ne_none' (by first | assumption | exact none_in (by assumption) | exact none_in (none_in (by assumption)) | exact none_in (none_in (none_in (by assumption))) | exact none_moves (by assumption) (by assumption) | exact none_moves (by assumption) (none_in (by assumption)) | exact none_in (none_moves (by assumption) (by assumption)) | exact none_in (none_in (none_moves (by assumption) (by assumption))) | fail) | exact ne_none (by first | assumption | exact none_in (by assumption) | exact none_in (none_in (by assumption)) | exact none_in (none_in (none_in (by assumption))) | exact none_moves (by assumption) (by assumption) | exact none_moves (by assumption) (none_in (by assumption)) | exact none_in (none_moves (by assumption) (by assumption)) | exact none_in (none_in (none_moves (by assumption) (by assumption))) | fail) | exact Ne.symm (by assumption) | exact ne_some (by assumption) (by assumption) | fail) | apply hb_moves (by assumption)); first | (first | exact setBox_same | assumption) | ((first | apply hb_ne (by first | assumption | exact ne_none' (by first | assumption | exact none_in (by assumption) | exact none_in (none_in (by assumption)) | exact none_in (none_in (none_in (by assumption))) | exact none_moves (by assumption) (by assumption) | exact none_moves (by assumption) (none_in (by assumption)) | exact none_in (none_moves (by assumption) (by assumption)) | exact none_in (none_in (none_moves (by assumption) (by assumption))) | fail) | exact ne_none (by first | assumption | exact none_in (by assumption) | exact none_in (none_in (by assumption)) | exact none_in (none_in (none_in (by assumption))) | exact none_moves (by assumption) (by assumption) | exact none_moves (by assumption) (none_in (by assumption)) | exact none_in (none_moves (by assumption) (by assumption)) | exact none_in (none_in (none_moves (by assumption) (by assumption))) | fail) | exact Ne.symm (by assumption) | exact ne_some (by assumption) (by assumption) | fail) | apply hb_moves (by assumption)); first | (first | exact setBox_same | assumption) | ((first | apply hb_ne (by first | assumption | exact ne_none' (by first | assumption | exact none_in (by assumption) | exact none_in (none_in (by assumption)) | exact none_in (none_in (none_in (by assumption))) | exact none_moves (by assumption) (by assumption) | exact none_moves (by assumption) (none_in (by assumption)) | exact none_in (none_moves (by assumption) (by assumption)) | exact none_in (none_in (none_moves (by assumption) (by assumption))) | fail) | exact ne_none (by first | assumption | exact none_in (by assumption) | exact none_in (none_in (by assumption)) | exact none_in (none_in (none_in (by assumption))) | exact none_moves (by assumption) (by assumption) | exact none_moves (by assumption) (none_in (by assumption)) | exact none_in (none_moves (by assumption) (by assumption)) | exact none_in (none_in (none_moves (by assumption) (by assumption))) | fail) | exact Ne.symm (by assumption) | exact ne_some (by assumption) (by assumption) | fail) | apply hb_moves (by assumption)); first | (first | exact setBox_same | assumption) | ((first | apply hb_ne (by first | assumption | exact ne_none' (by first | assumption | exact none_in (by assumption) | exact none_in (none_in (by assumption)) | exact none_in (none_in (none_in (by assumption))) | exact none_moves (by assumption) (by assumption) | exact none_moves (by assumption) (none_in (by assumption)) | exact none_in (none_moves (by assumption) (by assumption)) | exact none_in (none_in (none_moves (by assumption) (by assumption))) | fail) | exact ne_none (by first | assumption | exact none_in (by assumption) | exact none_in (none_in (by assumption)) | exact none_in (none_in (none_in (by assumption))) | exact none_moves (by assumption) (by assumption) | exact none_moves (by assumption) (none_in (by assumption)) | exact none_in (none_moves (by assumption) (by assumption)) | exact none_in (none_in (none_moves (by assumption) (by assumption))) | fail) | exact Ne.symm (by assumption) | exact ne_some (by assumption) (by assumption) | fail) | apply hb_moves (by assumption)); first | (first | exact setBox_same | assumption) | ((first | apply hb_ne (by first | assumption | exact ne_none' (by first | assumption | exact none_in (by assumption) | exact none_in (none_in (by assumption)) | exact none_in (none_in (none_in (by assumption))) | exact none_moves (by assumption) (by assumption) | exact none_moves (by assumption) (none_in (by assumption)) | exact none_in (none_moves (by assumption) (by assumption)) | exact none_in (none_in (none_moves (by assumption) (by assumption))) | fail) | exact ne_none (by first | assumption | exact none_in (by assumption) | exact none_in (none_in (by assumption)) | exact none_in (none_in (none_in (by assumption))) | exact none_moves (by assumption) (by assumption) | exact none_moves (by assumption) (none_in (by assumption)) | exact none_in (none_moves (by assumption) (by assumption)) | exact none_in (none_in (none_moves (by assumption) (by assumption))) | fail) | exact Ne.symm (by assumption) | exact ne_some (by assumption) (by assumption) | fail) | apply hb_moves (by assumption)); first | (first | exact setBox_same | assumption) | fail) | fail) | fail) | fail) | fail) | fail) | fail)); (focus (conv => (lhs; whnf))); (focus (exact rfl)); (focus (conv => (lhs; whnf))); (focus (exact rfl)); (focus (exact of_decide_eq_true rfl)); (focus (first | exact setL_whole rfl | exact setL_one | exact rfl))) | (apply r_callM; (focus (exact rfl)); (focus (exact rfl)); (focus (decide)); (focus (first | exact rfl | exact want_t rfl rfl rfl (by first | exact rfl | assumption | (simp [Nat.reduceEqDiff]; done) | fail) | fail)); (focus (exact rfl)); (focus (exact rfl)); (focus (infer_instance)); (focus (fail)); intro tk1 σ1 hm) | fail | (apply r_append'; (focus (exact rfl)); (focus (exact rfl)); (focus (decide)); (focus (infer_instance)); (focus (first | exact rfl | exact want_t rfl rfl rfl (by first | exact rfl | assumption | (simp [Nat.reduceEqDiff]; done) | fail) | fail)); (focus (exact rfl)); (focus (exact rfl)); (focus (exact rfl)); (focus (exact rfl)); (focus (first | assumption | exact Moves.more (by assumption) (by assumption) | fail)); (focus (first | (simp only [length_aBytes, List.length_append, List.length_cons, List.length_nil, List.length_map, List.length_range]; omega) | omega | fail)); intro tk1 σ1 hm) | (apply r_append; (focus (exact rfl)); (focus (exact rfl)); (focus (decide)); (focus (infer_instance)); (focus (first | exact rfl | exact want_t rfl rfl rfl (by first | exact rfl | assumption | (simp [Nat.reduceEqDiff]; done) | fail) | fail)); (focus (exact rfl)); (focus (exact rfl)); (focus (exact rfl)); (focus (exact rfl)); (focus (exact .inl rfl)); (focus (first | (simp only [length_aBytes, List.length_append, List.length_cons, List.length_nil, List.length_map, List.length_range]; omega) | omega | fail)); intro tk1 σ1 hm) | (apply r_op; (focus (exact rfl)); (focus (first | exact rfl | exact want_t rfl rfl rfl (by first | exact rfl | assumption | (simp [Nat.reduceEqDiff]; done) | fail) | fail)); (focus (first | (apply a_move; conv => (lhs; whnf)) | (apply a_assign; conv => (lhs; whnf)) | (apply g_load; first | exact a_load1 rfl rfl | exact a_loadA rfl (by rfl) rfl | fail) | (apply g_fieldAddr; first | exact a_fieldAddr1 rfl (by decide) rfl | exact a_fieldAddrA rfl (by decide) | exact a_fieldAddrP rfl (by decide) | fail) | (apply g_call; first | exact a_len_slc rfl | exact a_len_str rfl | exact a_len_nils rfl | exact a_min rfl rfl | exact a_max rfl rfl | fail) | (apply g_binOp; first | exact a_add64 rfl rfl (by first | omega | (simp only [List.length_cons, List.length_append, List.length_nil, List.length_map, length_aBytes, List.length_replicate, List.length_range]; omega) | fail) | exact a_sub64 rfl rfl (by first | omega | (simp only [List.length_cons, List.length_append, List.length_nil, List.length_map, length_aBytes, List.length_replicate, List.length_range]; omega) | fail) | exact a_mul64 rfl rfl (by first | omega | (simp only [List.length_cons, List.length_append, List.length_nil, List.length_map, length_aBytes, List.length_replicate, List.length_range]; omega) | fail) | exact a_quo64 rfl rfl (by first | omega | (simp only [List.length_cons, List.length_append, List.length_nil, List.length_map, length_aBytes, List.length_replicate, List.length_range]; omega) | fail) | exact a_rem rfl rfl (by first | omega | (simp only [List.length_cons, List.length_append, List.length_nil, List.length_map, length_aBytes, List.length_replicate, List.length_range]; omega) | fail) | (apply a_shr rfl rfl (by first | omega | (simp only [List.length_cons, List.length_append, List.length_nil, List.length_map, length_aBytes, List.length_replicate, List.length_range]; omega) | fail); conv => (lhs; whnf)) | exact a_u8add rfl rfl | exact a_u8sub rfl rfl | exact a_u8or rfl rfl | exact a_u8and rfl rfl | exact a_u8orC rfl rfl (by first | omega | (simp only [List.length_cons, List.length_append, List.length_nil, List.length_map, length_aBytes, List.length_replicate, List.length_range]; omega) | fail) | exact a_u8andC rfl rfl (by first | omega | (simp only [List.length_cons, List.length_append, List.length_nil, List.length_map, length_aBytes, List.length_replicate, List.length_range]; omega) | fail) | exact a_binI rfl rfl rfl | exact a_addS rfl rfl (by first | (simp only [length_aBytes, List.length_append, List.length_cons, List.length_nil, List.length_map, List.length_range]; omega) | omega | fail) | exact a_binS rfl rfl rfl rfl | exact a_binB rfl rfl rfl | exact a_nilS rfl rfl rfl rfl rfl rfl | exact a_nilP rfl rfl rfl rfl rfl rfl | exact a_nilF rfl rfl rfl rfl rfl rfl | fail | fail) | (apply g_indexAddr; first | exact a_indexAddr rfl rfl (by decide) (by first | omega | (simp only [List.length_cons, List.length_append, List.length_nil, List.length_map, length_aBytes, List.length_replicate, List.length_range]; omega) | fail) (by first | assumption | exact get_map (by assumption) | exact get_bytes (by assumption) | fail) | exact a_indexAddrR rfl rfl (by first | omega | (simp only [List.length_cons, List.length_append, List.length_nil, List.length_map, length_aBytes, List.length_replicate, List.length_range]; omega) | fail) | exact a_indexAddrM rfl rfl (by first | omega | (simp only [List.length_cons, List.length_append, List.length_nil, List.length_map, length_aBytes, List.length_replicate, List.length_range]; omega) | fail) | fail) | (apply g_index; first | exact a_indexS rfl rfl (by first | omega | (simp only [List.length_cons, List.length_append, List.length_nil, List.length_map, length_aBytes, List.length_replicate, List.length_range]; omega) | fail) (by first | assumption | exact get_map (by assumption) | exact get_bytes (by assumption) | fail) | fail) | (apply g_convert; first | exact a_convB rfl | exact a_convI rfl | exact a_bytesStr rfl | exact a_bytesStrX rfl (by repeat (first | exact toB_nil | apply toB_cons | apply toB_consC _ (by first | omega | (simp only [List.length_cons, List.length_append, List.length_nil, List.length_map, length_aBytes, List.length_replicate, List.length_range]; omega) | fail))) | exact a_nilsStr rfl | exact a_strBytes rfl (by first | (simp only [length_aBytes, List.length_append, List.length_cons, List.length_nil, List.length_map, List.length_range]; omega) | omega | fail) | fail) | (apply g_buildSlice; first | (apply a_build1; (conv => (lhs; whnf)); exact rfl; exact rfl; decide) | exact a_build1 rfl rfl (by rfl) (by decide) | (apply a_buildN; (focus (repeat (first | exact EvP.nil | apply EvP.cons (by conv => (lhs; whnf))))); (focus (conv => (lhs; whnf))); (focus exact rfl); (focus exact rfl); decide) | fail) | (apply g_build; first | (apply a_build; (focus (repeat (first | exact EvP.nil | apply EvP.cons (by conv => (lhs; whnf))))); (focus (simp only [aFill, List.getElem?_cons_zero, List.getElem?_cons_succ, AV.cells, List.length_cons, List.length_nil, AV.flat, AV.one, setL, List.set_cons_zero, List.set_cons_succ, Nat.reduceAdd, Nat.reduceLeDiff, Nat.reduceMul, and_self, if_true, ↓reduceIte, Nat.zero_add, Nat.le_refl, List.range, List.range.loop, List.map_cons, List.map_nil, Nat.zero_le]; rfl))) | fail) | (apply g_pick; first | (apply a_pickT rfl (by first | exact rfl | assumption | fail); conv => (lhs; whnf)) | (apply a_pickF rfl (by first | exact rfl | assumption | fail); conv => (lhs; whnf)) | exact a_pick rfl rfl rfl | fail) | (apply g_unOp; first | exact a_not rfl | exact a_neg64 rfl (by first | omega | (simp only [List.length_cons, List.length_append, List.length_nil, List.length_map, length_aBytes, List.length_replicate, List.length_range]; omega) | fail) | fail) | (apply g_nilCheck; first | exact a_nilCheck rfl rfl | fail) | (apply g_extract; first | exact a_extract rfl rfl | fail) | (apply g_field; first | exact a_field1 rfl rfl | exact a_fieldA rfl | fail) | (apply g_slice; first | exact a_sliceS rfl rfl rfl (by first | omega | (simp only [List.length_cons, List.length_append, List.length_nil, List.length_map, length_aBytes, List.length_replicate, List.length_range]; omega) | fail) | fail | exact a_sliceL rfl rfl rfl (by first | omega | (simp only [List.length_cons, List.length_append, List.length_nil, List.length_map, length_aBytes, List.length_replicate, List.length_range]; omega) | fail) | fail) | exact a_makeFunc rfl rfl | fail | fail | fail))) | (apply q_skip; (focus (exact rfl)); (focus (first | exact want_f rfl rfl rfl (by first | exact rfl | assumption | (simp [Nat.reduceEqDiff]; done) | fail) | fail))) | refine q_split rfl rfl rfl (fun hg => ?_) (fun hg => ?_) | fail))) <;> refine runs_done ?_) | refine W.skip ?_ | refine W.label ?_)) <;> show W _ _ _ _ _ _ _) | (refine W.condT rfl (by first | exact rfl | assumption | fail) ?_) | (refine W.condF rfl (by first | exact rfl | assumption | fail) ?_) | (refine W.ret ?_; show Q Exit.ret _ _; refine post_q hQ (by repeat (first | exact res_nil | (apply res_cell; (focus exact rfl); (focus (first | (first | exact setBox_same | assumption) | ((first | apply hb_ne (by first | assumption | exact ne_none' (by first | assumption | exact none_in (by assumption) | exact none_in (none_in (by assumption)) | exact none_in (none_in (none_in (by assumption))) | exact none_moves (by assumption) (by assumption) | exact none_moves (by assumption) (none_in (by assumption)) | exact none_in (none_moves (by assumption) (by assumption)) | exact none_in (none_in (none_moves (by assumption) (by assumption))) | fail) | exact ne_none (by first | assumption | exact none_in (by assumption) | exact none_in (none_in (by assumption)) | exact none_in (none_in (none_in (by assumption))) | exact none_moves (by assumption) (by assumption) | exact none_moves (by assumption) (none_in (by assumption)) | exact none_in (none_moves (by assumption) (by assumption)) | exact none_in (none_in (none_moves (by assumption) (by assumption))) | fail) | exact Ne.symm (by assumption) | exact ne_some (by assumption) (by assumption) | fail) | apply hb_moves (by assumption)); first | (first | exact setBox_same | assumption) | ((first | apply hb_ne (by first | assumption | exact ne_none' (by first | assumption | exact none_in (by assumption) | exact none_in (none_in (by assumption)) | exact none_in (none_in (none_in (by assumption))) | exact none_moves (by assumption) (by assumption) | exact none_moves (by assumption) (none_in (by assumption)) | exact none_in (none_moves (by assumption) (by assumption)) | exact none_in (none_in (none_moves (by assumption) (by assumption))) | fail) | exact ne_none (by first | assumption | exact none_in (by assumption) | exact none_in (none_in (by assumption)) | exact none_in (none_in (none_in (by assumption))) | exact none_moves (by assumption) (by assumption) | exact none_moves (by assumption) (none_in (by assumption)) | exact none_in (none_moves (by assumption) (by assumption)) | exact none_in (none_in (none_moves (by assumption) (by assumption))) | fail) | exact Ne.symm (by assumption) | exact ne_some (by assumption) (by assumption) | fail) | apply hb_moves (by assumption)); first | (first | exact setBox_same | assumption) | ((first | apply hb_ne (by first | assumption | exact ne_none' (by first | assumption | exact none_in (by assumption) | exact none_in (none_in (by assumption)) | exact none_in (none_in (none_in (by assumption))) | exact none_moves (by assumption) (by assumption) | exact none_moves (by assumption) (none_in (by assumption)) | exact none_in (none_moves (by assumption) (by assumption)) | exact none_in (none_in (none_moves (by assumption) (by assumption))) | fail) | exact ne_none (by first | assumption | exact none_in (by assumption) | exact none_in (none_in (by assumption)) | exact none_in (none_in (none_in (by assumption))) | exact none_moves (by assumption) (by assumption) | exact none_moves (by assumption) (none_in (by assumption)) | exact none_in (none_moves (by assumption) (by assumption)) | exact none_in (none_in (none_moves (by assumption) (by assumption))) | fail) | exact Ne.symm (by assumption) | exact ne_some (by assumption) (by assumption) | fail) | apply hb_moves (by assumption)); first | (first | exact setBox_same | assumption) | ((first | apply hb_ne (by first | assumption | exact ne_none' (by first | assumption | exact none_in (by assumption) | exact none_in (none_in (by assumption)) | exact none_in (none_in (none_in (by assumption))) | exact none_moves (by assumption) (by assumption) | exact none_moves (by assumption) (none_in (by assumption)) | exact none_in (none_moves (by assumption) (by assumption)) | exact none_in (none_in (none_moves (by assumption) (by assumption))) | fail) | exact ne_none (by first | assumption | exact none_in (by assumption) | exact none_in (none_in (by assumption)) | exact none_in (none_in (none_in (by assumption))) | exact none_moves (by assumption) (by assumption) | exact none_moves (by assumption) (none_in (by assumption)) | exact none_in (none_moves (by assumption) (by assumption)) | exact none_in (none_in (none_moves (by assumption) (by assumption))) | fail) | exact Ne.symm (by assumption) | exact ne_some (by assumption) (by assumption) | fail) | apply hb_moves (by assumption)); first | (first | exact setBox_same | assumption) | ((first | apply hb_ne (by first | assumption | exact ne_none' (by first | assumption | exact none_in (by assumption) | exact none_in (none_in (by assumption)) | exact none_in (none_in (none_in (by assumption))) | exact none_moves (by assumption) (by assumption) | exact none_moves (by assumption) (none_in (by assumption)) | exact none_in (none_moves (by assumption) (by assumption)) | exact none_in (none_in (none_moves (by assumption) (by assumption))) | fail) | exact ne_none (by first | assumption | exact none_in (by assumption) | exact none_in (none_in (by assumption)) | exact none_in (none_in (none_in (by assumption))) | exact none_moves (by assumption) (by assumption) | exact none_moves (by assumption) (none_in (by assumption)) | exact none_in (none_moves (by assumption) (by assumption)) | exact none_in (none_in (none_moves (by assumption) (by assumption))) | fail) | exact Ne.symm (by assumption) | exact ne_some (by assumption) (by assumption) | fail) | apply hb_moves (by assumption)); first | (first | exact setBox_same | assumption) | ((first | apply hb_ne (by first | assumption | exact ne_none' (by first | assumption | exact none_in (by assumption) | exact none_in (none_in (by assumption)) | exact none_in (none_in (none_in (by assumption))) | exact none_moves (by assumption) (by assumption) | exact none_moves (by assumption) (none_in (by assumption)) | exact none_in (none_moves (by assumption) (by assumption)) | exact none_in (none_in (none_moves (by assumption) (by assumption))) | fail) | exact ne_none (by first | assumption | exact none_in (by assumption) | exact none_in (none_in (by assumption)) | exact none_in (none_in (none_in (by assumption))) | exact none_moves (by assumption) (by assumption) | exact none_moves (by assumption) (none_in (by assumption)) | exact none_in (none_moves (by assumption) (by assumption)) | exact none_in (none_in (none_moves (by assumption) (by assumption))) | fail) | exact Ne.symm (by assumption) | exact ne_some (by assumption) (by assumption) | fail) | apply hb_moves (by assumption)); first | (first | exact setBox_same | assumption) | fail) | fail) | fail) | fail) | fail) | fail) | fail)); (focus (first | exact aLoad1 rfl | exact aLoadA rfl (by rfl) rfl | fail))) | (apply res_tmp; focus exact rfl))) (.inl rfl) (by repeat (first | assumption | exact .refl _ | refine le_setBox ?_ (by first | assumption | exact none_in (by assumption) | exact none_in (none_in (by assumption)) | exact none_in (none_in (none_in (by assumption))) | fail) | exact Moves.le (by assumption) | refine .trans ?_ (Moves.le (by assumption)))) ?_; (try conv => (lhs; whnf))) | refine W.seq ?_ | refine W.block ?_ | (refine W.skip ?_; try show W _ _ _ _ _ _ _) | (refine W.exit ?_; try show W _ _ _ _ _ _ _) | ((first | ((refine W.regionL (by decide +kernel) rfl ?_; (repeat' (first | (apply r_callP; (focus (exact rfl)); (focus (exact rfl)); (focus (first | exact rfl | exact want_t rfl rfl rfl (by first | exact rfl | assumption | (simp [Nat.reduceEqDiff]; done) | fail) | fail)); (focus (exact rfl)); (focus (exact rfl)); (focus (infer_instance)); (focus (fail))) | (apply r_load; (focus (exact rfl)); (focus (exact rfl)); (focus (exact rfl)); (focus (decide)); (focus (first | exact rfl | exact want_t rfl rfl rfl (by first | exact rfl | assumption | (simp [Nat.reduceEqDiff]; done) | fail) | fail)); (focus (first | (first | exact setBox_same | assumption) | ((first | apply hb_ne (by first | assumption | exact ne_none' (by first | assumption | exact none_in (by assumption) | exact none_in (none_in (by assumption)) | exact none_in (none_in (none_in (by assumption))) | exact none_moves (by assumption) (by assumption) | exact none_moves (by assumption) (none_in (by assumption)) | exact none_in (none_moves (by assumption) (by assumption)) | exact none_in (none_in (none_moves (by assumption) (by assumption))) | fail) | exact ne_none (by first | assumption | exact none_in (by assumption) | exact none_in (none_in (by assumption)) | exact none_in (none_in (none_in (by assumption))) | exact none_moves (by assumption) (by assumption) | exact none_moves (by assumption) (none_in (by assumption)) | exact none_in (none_moves (by assumption) (by assumption)) | exact none_in (none_in (none_moves (by assumption) (by assumption))) | fail) | exact Ne.symm (by assumption) | exact ne_some (by assumption) (by assumption) | fail) | apply hb_moves (by assumption)); first | (first | exact setBox_same | assumption) | ((first | apply hb_ne (by first | assumption | exact ne_none' (by first | assumption | exact none_in (by assumption) | exact none_in (none_in (by assumption)) | exact none_in (none_in (none_in (by assumption))) | exact none_moves (by assumption) (by assumption) | exact none_moves (by assumption) (none_in (by assumption)) | exact none_in (none_moves (by assumption) (by assumption)) | exact none_in (none_in (none_moves (by assumption) (by assumption))) | fail) | exact ne_none (by first | assumption | exact none_in (by assumption) | exact none_in (none_in (by assumption)) | exact none_in (none_in (none_in (by assumption))) | exact none_moves (by assumption) (by assumption) | exact none_moves (by assumption) (none_in (by assumption)) | exact none_in (none_moves (by assumption) (by assumption)) | exact none_in (none_in (none_moves (by assumption) (by assumption))) | fail) | exact Ne.symm (by assumption) | exact ne_some (by assumption) (by assumption) | fail) | apply hb_moves (by assumption)); first | (first | exact setBox_same | assumption) | ((first | apply hb_ne (by first | assumption | exact ne_none' (by first | assumption | exact none_in (by assumption) | exact none_in (none_in (by assumption)) | exact none_in (none_in (none_in (by assumption))) | exact none_moves (by assumption) (by assumption) | exact none_moves (by assumption) (none_in (by assumption)) | exact none_in (none_moves (by assumption) (by assumption)) | exact none_in (none_in (none_moves (by assumption) (by assumption))) | fail) | exact ne_none (by first | assumption | exact none_in (by assumption) | exact none_in (none_in (by assumption)) | exact none_in (none_in (none_in (by assumption))) | exact none_moves (by assumption) (by assumption) | exact none_moves (by assumption) (none_in (by assumption)) | exact none_in (none_moves (by assumption) (by assumption)) | exact none_in (none_in (none_moves (by assumption) (by assumption))) | fail) | exact Ne.symm (by assumption) | exact ne_some (by assumption) (by assumption) | fail) | apply hb_moves (by assumption)); first | (first | exact setBox_same | assumption) | ((first | apply hb_ne (by first | assumption | exact ne_none' (by first | assumption | exact none_in (by assumption) | exact none_in (none_in (by assumption)) | exact none_in (none_in (none_in (by assumption))) | exact none_moves (by assumption) (by assumption) | exact none_moves (by assumption) (none_in (by assumption)) | exact none_in (none_moves (by assumption) (by assumption)) | exact none_in (none_in (none_moves (by assumption) (by assumption))) | fail) | exact ne_none (by first | assumption | exact none_in (by assumption) | exact none_in (none_in (by assumption)) | exact none_in (none_in (none_in (by assumption))) | exact none_moves (by assumption) (by assumption) | exact none_moves (by assumption) (none_in (by assumption)) | exact none_in (none_moves (by assumption) (by assumption)) | exact none_in (none_in (none_moves (by assumption) (by assumption))) | fail) | exact Ne.symm (by assumption) | exact ne_some (by assumption) (by assumption) | fail) | apply hb_moves (by assumption)); first | (first | exact setBox_same | assumption) | ((first | apply hb_ne (by first | assumption | exact ne_none' (by first | assumption | exact none_in (by assumption) | exact none_in (none_in (by assumption)) | exact none_in (none_in (none_in (by assumption))) | exact none_moves (by assumption) (by assumption) | exact none_moves (by assumption) (none_in (by assumption)) | exact none_in (none_moves (by assumption) (by assumption)) | exact none_in (none_in (none_moves (by assumption) (by assumption))) | fail) | exact ne_none (by first | assumption | exact none_in (by assumption) | exact none_in (none_in (by assumption)) | exact none_in (none_in (none_in (by assumption))) | exact none_moves (by assumption) (by assumption) | exact none_moves (by assumption) (none_in (by assumption)) | exact none_in (none_moves (by assumption) (by assumption)) | exact none_in (none_in (none_moves (by assumption) (by assumption))) | fail) | exact Ne.symm (by assumption) | exact ne_some (by assumption) (by assumption) | fail) | apply hb_moves (by assumption)); first | (first | exact setBox_same | assumption) | ((first | apply hb_ne (by first | assumption | exact ne_none' (by first | assumption | exact none_in (by assumption) | exact none_in (none_in (by assumption)) | exact none_in (none_in (none_in (by assumption))) | exact none_moves (by assumption) (by assumption) | exact none_moves (by assumption) (none_in (by assumption)) | exact none_in (none_moves (by assumption) (by assumption)) | exact none_in (none_in (none_moves (by assumption) (by assumption))) | fail) | exact ne_none (by first | assumption | exact none_in (by assumption) | exact none_in (none_in (by assumption)) | exact none_in (none_in (none_in (by assumption))) | exact none_moves (by assumption) (by assumption) | exact none_moves (by assumption) (none_in (by assumption)) | exact none_in (none_moves (by assumption) (by assumption)) | exact none_in (none_in (none_moves (by assumption) (by assumption))) | fail) | exact Ne.symm (by assumption) | exact ne_some (by assumption) (by assumption) | fail) | apply hb_moves (by assumption)); first | (first | exact setBox_same | assumption) | fail) | fail) | fail) | fail) | fail) | fail) | fail)); (focus (first | exact aLoad1 rfl | exact aLoadA rfl (by rfl) rfl | fail))) | (apply r_allocN; (focus (exact rfl)); (focus (exact rfl)); (focus (decide)); (focus (infer_instance)); (focus (first | exact rfl | exact want_t rfl rfl rfl (by first | exact rfl | assumption | (simp [Nat.reduceEqDiff]; done) | fail) | fail)); (focus (exact rfl)); intro b1 hb1) | (apply r_alloc; (focus (exact rfl)); (focus (exact rfl)); (focus (decide)); (focus (first | exact rfl | exact want_t rfl rfl rfl (by first | exact rfl | assumption | (simp [Nat.reduceEqDiff]; done) | fail) | fail)); (focus (conv => (lhs; whnf))); intro b1 hb1) | (apply r_boxF; (focus (exact rfl)); (focus (exact rfl)); (focus (first | exact rfl | exact want_t rfl rfl rfl (by first | exact rfl | assumption | (simp [Nat.reduceEqDiff]; done) | fail) | fail)); (focus (conv => (lhs; whnf))); (focus (exact rfl))) | (apply r_box; (focus (exact rfl)); (focus (exact rfl)); (focus (decide)); (focus (first | exact rfl | exact want_t rfl rfl rfl (by first | exact rfl | assumption | (simp [Nat.reduceEqDiff]; done) | fail) | fail)); (focus (conv => (lhs; whnf))); (focus (exact rfl)); (focus (conv => (lhs; whnf))); intro b1 hb1) | (apply r_store; (focus (exact rfl)); (focus (exact rfl)); (focus (exact rfl)); (focus (decide)); (focus (infer_instance)); (focus (first | exact rfl | exact want_t rfl rfl rfl (by first | exact rfl | assumption | (simp [Nat.reduceEqDiff]; done) | fail) | fail)); (focus (first | (first | exact setBox_same | assumption) | ((first | apply hb_ne (by first | assumption | exact ne_none' (by first | assumption | exact none_in (by assumption) | exact none_in (none_in (by assumption)) | exact none_in (none_in (none_in (by assumption))) | exact none_moves (by assumption) (by assumption) | exact none_moves (by assumption) (none_in (by assumption)) | exact none_in (none_moves (by assumption) (by assumption)) | exact none_in (none_in (none_moves (by assumption) (by assumption))) | fail) | exact ne_none (by first | assumption | exact none_in (by assumption) | exact none_in (none_in (by assumption)) | exact none_in (none_in (none_in (by assumption))) | exact none_moves (by assumption) (by assumption) | exact none_moves (by assumption) (none_in (by assumption)) | exact none_in (none_moves (by assumption) (by assumption)) | exact none_in (none_in (none_moves (by assumption) (by assumption))) | fail) | exact Ne.symm (by assumption) | exact ne_some (by assumption) (by assumption) | fail) | apply hb_moves (by assumption)); first | (first | exact setBox_same | assumption) | ((first | apply hb_ne (by first | assumption | exact ne_none' (by first | assumption | exact none_in (by assumption) | exact none_in (none_in (by assumption)) | exact none_in (none_in (none_in (by assumption))) | exact none_moves (by assumption) (by assumption) | exact none_moves (by assumption) (none_in (by assumption)) | exact none_in (none_moves (by assumption) (by assumption)) | exact none_in (none_in (none_moves (by assumption) (by assumption))) | fail) | exact ne_none (by first | assumption | exact none_in (by assumption) | exact none_in (none_in (by assumption)) | exact none_in (none_in (none_in (by assumption))) | exact none_moves (by assumption) (by assumption) | exact none_moves (by assumption) (none_in (by assumption)) | exact none_in (none_moves (by assumption) (by assumption)) | exact none_in (none_in (none_moves (by assumption) (by assumption))) | fail) | exact Ne.symm (by assumption) | exact ne_some (by assumption) (by assumption) | fail) | apply hb_moves (by assumption)); first | (first | exact setBox_same | assumption) | ((first | apply hb_ne (by first | assumption | exact ne_none' (by first | assumption | exact none_in (by assumption) | exact none_in (none_in (by assumption)) | exact none_in (none_in (none_in (by assumption))) | exact none_moves (by assumption) (by assumption) | exact none_moves (by assumption) (none_in (by assumption)) | exact none_in (none_moves (by assumption) (by assumption)) | exact none_in (none_in (none_moves (by assumption) (by assumption))) | fail) | exact ne_none (by first | assumption | exact none_in (by assumption) | exact none_in (none_in (by assumption)) | exact none_in (none_in (none_in (by assumption))) | exact none_moves (by assumption) (by assumption) | exact none_moves (by assumption) (none_in (by assumption)) | exact none_in (none_moves (by assumption) (by assumption)) | exact none_in (none_in (none_moves (by assumption) (by assumption))) | fail) | exact Ne.symm (by assumption) | exact ne_some (by assumption) (by assumption) | fail) | apply hb_moves (by assumption)); first | (first | exact setBox_same | assumption) | ((first | apply hb_ne (by first | assumption | exact ne_none' (by first | assumption | exact none_in (by assumption) | exact none_in (none_in (by assumption)) | exact none_in (none_in (none_in (by assumption))) | exact none_moves (by assumption) (by assumption) | exact none_moves (by assumption) (none_in (by assumption)) | exact none_in (none_moves (by assumption) (by assumption)) | exact none_in (none_in (none_moves (by assumption) (by assumption))) | fail) | exact ne_none (by first | assumption | exact none_in (by assumption) | exact none_in (none_in (by assumption)) | exact none_in (none_in (none_in (by assumption))) | exact none_moves (by assumption) (by assumption) | exact none_moves (by assumption) (none_in (by assumption)) | exact none_in (none_moves (by assumption) (by assumption)) | exact none_in (none_in (none_moves (by assumption) (by assumption))) | fail) | exact Ne.symm (by assumption) | exact ne_some (by assumption) (by assumption) | fail) | apply hb_moves (by assumption)); first | (first | exact setBox_same | assumption) | ((first | apply hb_ne (by first | assumption | exact ne_none' (by first | assumption | exact none_in (by assumption) | exact none_in (none_in (by assumption)) | exact none_in (none_in (none_in (by assumption))) | exact none_moves (by assumption) (by assumption) | exact none_moves (by assumption) (none_in (by assumption)) | exact none_in (none_moves (by assumption) (by assumption)) | exact none_in (none_in (none_moves (by assumption) (by assumption))) | fail) | exact ne_none (by first | assumption | exact none_in (by assumption) | exact none_in (none_in (by assumption)) | exact none_in (none_in (none_in (by assumption))) | exact none_moves (by assumption) (by assumption) | exact none_moves (by assumption) (none_in (by assumption)) | exact none_in (none_moves (by assumption) (by assumption)) | exact none_in (none_in (none_moves (by assumption) (by assumption))) | fail) | exact Ne.symm (by assumption) | exact ne_some (by assumption) (by assumption) | fail) | apply hb_moves (by assumption)); first | (first | exact setBox_same | assumption) | ((first | apply hb_ne (by first | assumption | exact ne_none' (by first | assumption | exact none_in (by assumption) | exact none_in (none_in (by assumption)) | exact none_in (none_in (none_in (by assumption))) | exact none_moves (by assumption) (by assumption) | exact none_moves (by assumption) (none_in (by assumption)) | exact none_in (none_moves (by assumption) (by assumption)) | exact none_in (none_in (none_moves (by assumption) (by assumption))) | fail) | exact ne_none (by first | assumption | exact none_in (by assumption) | exact none_in (none_in (by assumption)) | exact none_in (none_in (none_in (by assumption))) | exact none_moves (by assumption) (by assumption) | exact none_moves (by assumption) (none_in (by assumption)) | exact none_in (none_moves (by assumption) (by assumption)) | exact none_in (none_in (none_moves (by assumption) (by assumption))) | fail) | exact Ne.symm (by assumption) | exact ne_some (by assumption) (by assumption) | fail) | apply hb_moves (by assumption)); first | (first | exact setBox_same | assumption) | fail) | fail) | fail) | fail) | fail) | fail) | fail)); (focus (conv => (lhs; whnf))); (focus (exact rfl)); (focus (conv => (lhs; whnf))); (focus (exact rfl)); (focus (exact of_decide_eq_true rfl)); (focus (first | exact setL_whole rfl | exact setL_one | exact rfl))) | (apply r_callM; (focus (exact rfl)); (focus (exact rfl)); (focus (decide)); (focus (first | exact rfl | exact want_t rfl rfl rfl (by first | exact rfl | assumption | (simp [Nat.reduceEqDiff]; done) | fail) | fail)); (focus (exact rfl)); (focus (exact rfl)); (focus (infer_instance)); (focus (fail)); intro tk1 σ1 hm) | fail | (apply r_append'; (focus (exact rfl)); (focus (exact rfl)); (focus (decide)); (focus (infer_instance)); (focus (first | exact rfl | exact want_t rfl rfl rfl (by first | exact rfl | assumption | (simp [Nat.reduceEqDiff]; done) | fail) | fail)); (focus (exact rfl)); (focus (exact rfl)); (focus (exact rfl)); (focus (exact rfl)); (focus (first | assumption | exact Moves.more (by assumption) (by assumption) | fail)); (focus (first | (simp only [length_aBytes, List.length_append, List.length_cons, List.length_nil, List.length_map, List.length_range]; omega) | omega | fail)); intro tk1 σ1 hm) | (apply r_append; (focus (exact rfl)); (focus (exact rfl)); (focus (decide)); (focus (infer_instance)); (focus (first | exact rfl | exact want_t rfl rfl rfl (by first | exact rfl | assumption | (simp [Nat.reduceEqDiff]; done) | fail) | fail)); (focus (exact rfl)); (focus (exact rfl)); (focus (exact rfl)); (focus (exact rfl)); (focus (exact .inl rfl)); (focus (first | (simp only [length_aBytes, List.length_append, List.length_cons, List.length_nil, List.length_map, List.length_range]; omega) | omega | fail)); intro tk1 σ1 hm) | (apply r_op; (focus (exact rfl)); (focus (first | exact rfl | exact want_t rfl rfl rfl (by first | exact rfl | assumption | (simp [Nat.reduceEqDiff]; done) | fail) | fail)); (focus (first | (apply a_move; conv => (lhs; whnf)) | (apply a_assign; conv => (lhs; whnf)) | (apply g_load; first | exact a_load1 rfl rfl | exact a_loadA rfl (by rfl) rfl | fail) | (apply g_fieldAddr; first | exact a_fieldAddr1 rfl (by decide) rfl | exact a_fieldAddrA rfl (by decide) | exact a_fieldAddrP rfl (by decide) | fail) | (apply g_call; first | exact a_len_slc rfl | exact a_len_str rfl | exact a_len_nils rfl | exact a_min rfl rfl | exact a_max rfl rfl | fail) | (apply g_binOp; first | exact a_add64 rfl rfl (by first | omega | (simp only [List.length_cons, List.length_append, List.length_nil, List.length_map, length_aBytes, List.length_replicate, List.length_range]; omega) | fail) | exact a_sub64 rfl rfl (by first | omega | (simp only [List.length_cons, List.length_append, List.length_nil, List.length_map, length_aBytes, List.length_replicate, List.length_range]; omega) | fail) | exact a_mul64 rfl rfl (by first | omega | (simp only [List.length_cons, List.length_append, List.length_nil, List.length_map, length_aBytes, List.length_replicate, List.length_range]; omega) | fail) | exact a_quo64 rfl rfl (by first | omega | (simp only [List.length_cons, List.length_append, List.length_nil, List.length_map, length_aBytes, List.length_replicate, List.length_range]; omega) | fail) | exact a_rem rfl rfl (by first | omega | (simp only [List.length_cons, List.length_append, List.length_nil, List.length_map, length_aBytes, List.length_replicate, List.length_range]; omega) | fail) | (apply a_shr rfl rfl (by first | omega | (simp only [List.length_cons, List.length_append, List.length_nil, List.length_map, length_aBytes, List.length_replicate, List.length_range]; omega) | fail); conv => (lhs; whnf)) | exact a_u8add rfl rfl | exact a_u8sub rfl rfl | exact a_u8or rfl rfl | exact a_u8and rfl rfl | exact a_u8orC rfl rfl (by first | omega | (simp only [List.length_cons, List.length_append, List.length_nil, List.length_map, length_aBytes, List.length_replicate, List.length_range]; omega) | fail) | exact a_u8andC rfl rfl (by first | omega | (simp only [List.length_cons, List.length_append, List.length_nil, List.length_map, length_aBytes, List.length_replicate, List.length_range]; omega) | fail) | exact a_binI rfl rfl rfl | exact a_addS rfl rfl (by first | (simp only [length_aBytes, List.length_append, List.length_cons, List.length_nil, List.length_map, List.length_range]; omega) | omega | fail) | exact a_binS rfl rfl rfl rfl | exact a_binB rfl rfl rfl | exact a_nilS rfl rfl rfl rfl rfl rfl | exact a_nilP rfl rfl rfl rfl rfl rfl | exact a_nilF rfl rfl rfl rfl rfl rfl | fail | fail) | (apply g_indexAddr; first | exact a_indexAddr rfl rfl (by decide) (by first | omega | (simp only [List.length_cons, List.length_append, List.length_nil, List.length_map, length_aBytes, List.length_replicate, List.length_range]; omega) | fail) (by first | assumption | exact get_map (by assumption) | exact get_bytes (by assumption) | fail) | exact a_indexAddrR rfl rfl (by first | omega | (simp only [List.length_cons, List.length_append, List.length_nil, List.length_map, length_aBytes, List.length_replicate, List.length_range]; omega) | fail) | exact a_indexAddrM rfl rfl (by first | omega | (simp only [List.length_cons, List.length_append, List.length_nil, List.length_map, length_aBytes, List.length_replicate, List.length_range]; omega) | fail) | fail) | (apply g_index; first | exact a_indexS rfl rfl (by first | omega | (simp only [List.length_cons, List.length_append, List.length_nil, List.length_map, length_aBytes, List.length_replicate, List.length_range]; omega) | fail) (by first | assumption | exact get_map (by assumption) | exact get_bytes (by assumption) | fail) | fail) | (apply g_convert; first | exact a_convB rfl | exact a_convI rfl | exact a_bytesStr rfl | exact a_bytesStrX rfl (by repeat (first | exact toB_nil | apply toB_cons | apply toB_consC _ (by first | omega | (simp only [List.length_cons, List.length_append, List.length_nil, List.length_map, length_aBytes, List.length_replicate, List.length_range]; omega) | fail))) | exact a_nilsStr rfl | exact a_strBytes rfl (by first | (simp only [length_aBytes, List.length_append, List.length_cons, List.length_nil, List.length_map, List.length_range]; omega) | omega | fail) | fail) | (apply g_buildSlice; first | (apply a_build1; (conv => (lhs; whnf)); exact rfl; exact rfl; decide) | exact a_build1 rfl rfl (by rfl) (by decide) | (apply a_buildN; (focus (repeat (first | exact EvP.nil | apply EvP.cons (by conv => (lhs; whnf))))); (focus (conv => (lhs; whnf))); (focus exact rfl); (focus exact rfl); decide) | fail) | (apply g_build; first | (apply a_build; (focus (repeat (first | exact EvP.nil | apply EvP.cons (by conv => (lhs; whnf))))); (focus (simp only [aFill, List.getElem?_cons_zero, List.getElem?_cons_succ, AV.cells, List.length_cons, List.length_nil, AV.flat, AV.one, setL, List.set_cons_zero, List.set_cons_succ, Nat.reduceAdd, Nat.reduceLeDiff, Nat.reduceMul, and_self, if_true, ↓reduceIte, Nat.zero_add, Nat.le_refl, List.range, List.range.loop, List.map_cons, List.map_nil, Nat.zero_le]; rfl))) | fail) | (apply g_pick; first | (apply a_pickT rfl (by first | exact rfl | assumption | fail); conv => (lhs; whnf)) | (apply a_pickF rfl (by first | exact rfl | assumption | fail); conv => (lhs; whnf)) | exact a_pick rfl rfl rfl | fail) | (apply g_unOp; first | exact a_not rfl | exact a_neg64 rfl (by first | omega | (simp only [List.length_cons, List.length_append, List.length_nil, List.length_map, length_aBytes, List.length_replicate, List.length_range]; omega) | fail) | fail) | (apply g_nilCheck; first | exact a_nilCheck rfl rfl | fail) | (apply g_extract; first | exact a_extract rfl rfl | fail) | (apply g_field; first | exact a_field1 rfl rfl | exact a_fieldA rfl | fail) | (apply g_slice; first | exact a_sliceS rfl rfl rfl (by first | omega | (simp only [List.length_cons, List.length_append, List.length_nil, List.length_map, length_aBytes, List.length_replicate, List.length_range]; omega) | fail) | fail | exact a_sliceL rfl rfl rfl (by first | omega | (simp only [List.length_cons, List.length_append, List.length_nil, List.length_map, length_aBytes, List.length_replicate, List.length_range]; omega) | fail) | fail) | exact a_makeFunc rfl rfl | fail | fail | fail))) | (apply q_skip; (focus (exact rfl)); (focus (first | exact want_f rfl rfl rfl (by first | exact rfl | assumption | (simp [Nat.reduceEqDiff]; done) | fail) | fail))) | refine q_split rfl rfl rfl (fun hg => ?_) (fun hg => ?_) | fail))) <;> refine runs_done ?_) | (((first | refine W.regionDK 1 [] Ty.mixed (by decide +kernel) (by decide +kernel) rfl ?_ | refine W.regionDK 0 [] Ty.mixed (by decide +kernel) (by decide +kernel) rfl ?_ | fail); (repeat' (first | (apply r_callP; (focus (exact rfl)); (focus (exact rfl)); (focus (first | exact rfl | exact want_t rfl rfl rfl (by first | exact rfl | assumption | (simp [Nat.reduceEqDiff]; done) | fail) | fail)); (focus (exact rfl)); (focus (exact rfl)); (focus (infer_instance)); (focus (fail))) | (apply r_load; (focus (exact rfl)); (focus (exact rfl)); (focus (exact rfl)); (focus (decide)); (focus (first | exact rfl | exact want_t rfl rfl rfl (by first | exact rfl | assumption | (simp [Nat.reduceEqDiff]; done) | fail) | fail)); (focus (first | (first | exact setBox_same | assumption) | ((first | apply hb_ne (by first | assumption | exact ne_none' (by first | assumption | exact none_in (by assumption) | exact none_in (none_in (by assumption)) | exact none_in (none_in (none_in (by assumption))) | exact none_moves (by assumption) (by assumption) | exact none_moves (by assumption) (none_in (by assumption)) | exact none_in (none_moves (by assumption) (by assumption)) | exact none_in (none_in (none_moves (by assumption) (by assumption))) | fail) | exact ne_none (by first | assumption | exact none_in (by assumption) | exact none_in (none_in (by assumption)) | exact none_in (none_in (none_in (by assumption))) | exact none_moves (by assumption) (by assumption) | exact none_moves (by assumption) (none_in (by assumption)) | exact none_in (none_moves (by assumption) (by assumption)) | exact none_in (none_in (none_moves (by assumption) (by assumption))) | fail) | exact Ne.symm (by assumption) | exact ne_some (by assumption) (by assumption) | fail) | apply hb_moves (by assumption)); first | (first | exact setBox_same | assumption) | ((first | apply hb_ne (by first | assumption | exact ne_none' (by first | assumption | exact none_in (by assumption) | exact none_in (none_in (by assumption)) | exact none_in (none_in (none_in (by assumption))) | exact none_moves (by assumption) (by assumption) | exact none_moves (by assumption) (none_in (by assumption)) | exact none_in (none_moves (by assumption) (by assumption)) | exact none_in (none_in (none_moves (by assumption) (by assumption))) | fail) | exact ne_none (by first | assumption | exact none_in (by assumption) | exact none_in (none_in (by assumption)) | exact none_in (none_in (none_in (by assumption))) | exact none_moves (by assumption) (by assumption) | exact none_moves (by assumption) (none_in (by assumption)) | exact none_in (none_moves (by assumption) (by assumption)) | exact none_in (none_in (none_moves (by assumption) (by assumption))) | fail) | exact Ne.symm (by assumption) | exact ne_some (by assumption) (by assumption) | fail) | apply hb_moves (by assumption)); first | (first | exact setBox_same | assumption) | ((first | apply hb_ne (by first | assumption | exact ne_none' (by first | assumption | exact none_in (by assumption) | exact none_in (none_in (by assumption)) | exact none_in (none_in (none_in (by assumption))) | exact none_moves (by assumption) (by assumption) | exact none_moves (by assumption) (none_in (by assumption)) | exact none_in (none_moves (by assumption) (by assumption)) | exact none_in (none_in (none_moves (by assumption) (by assumption))) | fail) | exact ne_none (by first | assumption | exact none_in (by assumption) | exact none_in (none_in (by assumption)) | exact none_in (none_in (none_in (by assumption))) | exact none_moves (by assumption) (by assumption) | exact none_moves (by assumption) (none_in (by assumption)) | exact none_in (none_moves (by assumption) (by assumption)) | exact none_in (none_in (none_moves (by assumption) (by assumption))) | fail) | exact Ne.symm (by assumption) | exact ne_some (by assumption) (by assumption) | fail) | apply hb_moves (by assumption)); first | (first | exact setBox_same | assumption) | ((first | apply hb_ne (by first | assumption | exact ne_none' (by first | assumption | exact none_in (by assumption) | exact none_in (none_in (by assumption)) | exact none_in (none_in (none_in (by assumption))) | exact none_moves (by assumption) (by assumption) | exact none_moves (by assumption) (none_in (by assumption)) | exact none_in (none_moves (by assumption) (by assumption)) | exact none_in (none_in (none_moves (by assumption) (by assumption))) | fail) | exact ne_none (by first | assumption | exact none_in (by assumption) | exact none_in (none_in (by assumption)) | exact none_in (none_in (none_in (by assumption))) | exact none_moves (by assumption) (by assumption) | exact none_moves (by assumption) (none_in (by assumption)) | exact none_in (none_moves (by assumption) (by assumption)) | exact none_in (none_in (none_moves (by assumption) (by assumption))) | fail) | exact Ne.symm (by assumption) | exact ne_some (by assumption) (by assumption) | fail) | apply hb_moves (by assumption)); first | (first | exact setBox_same | assumption) | ((first | apply hb_ne (by first | assumption | exact ne_none' (by first | assumption | exact none_in (by assumption) | exact none_in (none_in (by assumption)) | exact none_in (none_in (none_in (by assumption))) | exact none_moves (by assumption) (by assumption) | exact none_moves (by assumption) (none_in (by assumption)) | exact none_in (none_moves (by assumption) (by assumption)) | exact none_in (none_in (none_moves (by assumption) (by assumption))) | fail) | exact ne_none (by first | assumption | exact none_in (by assumption) | exact none_in (none_in (by assumption)) | exact none_in (none_in (none_in (by assumption))) | exact none_moves (by assumption) (by assumption) | exact none_moves (by assumption) (none_in (by assumption)) | exact none_in (none_moves (by assumption) (by assumption)) | exact none_in (none_in (none_moves (by assumption) (by assumption))) | fail) | exact Ne.symm (by assumption) | exact ne_some (by assumption) (by assumption) | fail) | apply hb_moves (by assumption)); first | (first | exact setBox_same | assumption) | ((first | apply hb_ne (by first | assumption | exact ne_none' (by first | assumption | exact none_in (by assumption) | exact none_in (none_in (by assumption)) | exact none_in (none_in (none_in (by assumption))) | exact none_moves (by assumption) (by assumption) | exact none_moves (by assumption) (none_in (by assumption)) | exact none_in (none_moves (by assumption) (by assumption)) | exact none_in (none_in (none_moves (by assumption) (by assumption))) | fail) | exact ne_none (by first | assumption | exact none_in (by assumption) | exact none_in (none_in (by assumption)) | exact none_in (none_in (none_in (by assumption))) | exact none_moves (by assumption) (by assumption) | exact none_moves (by assumption) (none_in (by assumption)) | exact none_in (none_moves (by assumption) (by assumption)) | exact none_in (none_in (none_moves (by assumption) (by assumption))) | fail) | exact Ne.symm (by assumption) | exact ne_some (by assumption) (by assumption) | fail) | apply hb_moves (by assumption)); first | (first | exact setBox_same | assumption) | fail) | fail) | fail) | fail) | fail) | fail) | fail)); (focus (first | exact aLoad1 rfl | exact aLoadA rfl (by rfl) rfl | fail))) | (apply r_allocN; (focus (exact rfl)); (focus (exact rfl)); (focus (decide)); (focus (infer_instance)); (focus (first | exact rfl | exact want_t rfl rfl rfl (by first | exact rfl | assumption | (simp [Nat.reduceEqDiff]; done) | fail) | fail)); (focus (exact rfl)); intro b1 hb1) | (apply r_alloc; (focus (exact rfl)); (focus (exact rfl)); (focus (decide)); (focus (first | exact rfl | exact want_t rfl rfl rfl (by first | exact rfl | assumption | (simp [Nat.reduceEqDiff]; done) | fail) | fail)); (focus (conv => (lhs; whnf))); intro b1 hb1) | (apply r_boxF; (focus (exact rfl)); (focus (exact rfl)); (focus (first | exact rfl | exact want_t rfl rfl rfl (by first | exact rfl | assumption | (simp [Nat.reduceEqDiff]; done) | fail) | fail)); (focus (conv => (lhs; whnf))); (focus (exact rfl))) | (apply r_box; (focus (exact rfl)); (focus (exact rfl)); (focus (decide)); (focus (first | exact rfl | exact want_t rfl rfl rfl (by first | exact rfl | assumption | (simp [Nat.reduceEqDiff]; done) | fail) | fail)); (focus (conv => (lhs; whnf))); (focus (exact rfl)); (focus (conv => (lhs; whnf))); intro b1 hb1) | (apply r_store; (focus (exact rfl)); (focus (exact rfl)); (focus (exact rfl)); (focus (decide)); (focus (infer_instance)); (focus (first | exact rfl | exact want_t rfl rfl rfl (by first | exact rfl | assumption | (simp [Nat.reduceEqDiff]; done) | fail) | fail)); (focus (first | (first | exact setBox_same | assumption) | ((first | apply hb_ne (by first | assumption | exact ne_none' (by first | assumption | exact none_in (by assumption) | exact none_in (none_in (by assumption)) | exact none_in (none_in (none_in (by assumption))) | exact none_moves (by assumption) (by assumption) | exact none_moves (by assumption) (none_in (by assumption)) | exact none_in (none_moves (by assumption) (by assumption)) | exact none_in (none_in (none_moves (by assumption) (by assumption))) | fail) | exact ne_none (by first | assumption | exact none_in (by assumption) | exact none_in (none_in (by assumption)) | exact none_in (none_in (none_in (by assumption))) | exact none_moves (by assumption) (by assumption) | exact none_moves (by assumption) (none_in (by assumption)) | exact none_in (none_moves (by assumption) (by assumption)) | exact none_in (none_in (none_moves (by assumption) (by assumption))) | fail) | exact Ne.symm (by assumption) | exact ne_some (by assumption) (by assumption) | fail) | apply hb_moves (by assumption)); first | (first | exact setBox_same | assumption) | ((first | apply hb_ne (by first | assumption | exact ne_none' (by first | assumption | exact none_in (by assumption) | exact none_in (none_in (by assumption)) | exact none_in (none_in (none_in (by assumption))) | exact none_moves (by assumption) (by assumption) | exact none_moves (by assumption) (none_in (by assumption)) | exact none_in (none_moves (by assumption) (by assumption)) | exact none_in (none_in (none_moves (by assumption) (by assumption))) | fail) | exact ne_none (by first | assumption | exact none_in (by assumption) | exact none_in (none_in (by assumption)) | exact none_in (none_in (none_in (by assumption))) | exact none_moves (by assumption) (by assumption) | exact none_moves (by assumption) (none_in (by assumption)) | exact none_in (none_moves (by assumption) (by assumption)) | exact none_in (none_in (none_moves (by assumption) (by assumption))) | fail) | exact Ne.symm (by assumption) | exact ne_some (by assumption) (by assumption) | fail) | apply hb_moves (by assumption)); first | (first | exact setBox_same | assumption) | ((first | apply hb_ne (by first | assumption | exact ne_none' (by first | assumption | exact none_in (by assumption) | exact none_in (none_in (by assumption)) | exact none_in (none_in (none_in (by assumption))) | exact none_moves (by assumption) (by assumption) | exact none_moves (by assumption) (none_in (by assumption)) | exact none_in (none_moves (by assumption) (by assumption)) | exact none_in (none_in (none_moves (by assumption) (by assumption))) | fail) | exact ne_none (by first | assumption | exact none_in (by assumption) | exact none_in (none_in (by assumption)) | exact none_in (none_in (none_in (by assumption))) | exact none_moves (by assumption) (by assumption) | exact none_moves (by assumption) (none_in (by assumption)) | exact none_in (none_moves (by assumption) (by assumption)) | exact none_in (none_in (none_moves (by assumption) (by assumption))) | fail) | exact Ne.symm (by assumption) | exact ne_some (by assumption) (by assumption) | fail) | apply hb_moves (by assumption)); first | (first | exact setBox_same | assumption) | ((first | apply hb_ne (by first | assumption | exact ne_none' (by first | assumption | exact none_in (by assumption) | exact none_in (none_in (by assumption)) | exact none_in (none_in (none_in (by assumption))) | exact none_moves (by assumption) (by assumption) | exact none_moves (by assumption) (none_in (by assumption)) | exact none_in (none_moves (by assumption) (by assumption)) | exact none_in (none_in (none_moves (by assumption) (by assumption))) | fail) | exact ne_none (by first | assumption | exact none_in (by assumption) | exact none_in (none_in (by assumption)) | exact none_in (none_in (none_in (by assumption))) | exact none_moves (by assumption) (by assumption) | exact none_moves (by assumption) (none_in (by assumption)) | exact none_in (none_moves (by assumption) (by assumption)) | exact none_in (none_in (none_moves (by assumption) (by assumption))) | fail) | exact Ne.symm (by assumption) | exact ne_some (by assumption) (by assumption) | fail) | apply hb_moves (by assumption)); first | (first | exact setBox_same | assumption) | ((first | apply hb_ne (by first | assumption | exact ne_none' (by first | assumption | exact none_in (by assumption) | exact none_in (none_in (by assumption)) | exact none_in (none_in (none_in (by assumption))) | exact none_moves (by assumption) (by assumption) | exact none_moves (by assumption) (none_in (by assumption)) | exact none_in (none_moves (by assumption) (by assumption)) | exact none_in (none_in (none_moves (by assumption) (by assumption))) | fail) | exact ne_none (by first | assumption | exact none_in (by assumption) | exact none_in (none_in (by assumption)) | exact none_in (none_in (none_in (by assumption))) | exact none_moves (by assumption) (by assumption) | exact none_moves (by assumption) (none_in (by assumption)) | exact none_in (none_moves (by assumption) (by assumption)) | exact none_in (none_in (none_moves (by assumption) (by assumption))) | fail) | exact Ne.symm (by assumption) | exact ne_some (by assumption) (by assumption) | fail) | apply hb_moves (by assumption)); first | (first | exact setBox_same | assumption) | ((first | apply hb_ne (by first | assumption | exact ne_none' (by first | assumption | exact none_in (by assumption) | exact none_in (none_in (by assumption)) | exact none_in (none_in (none_in (by assumption))) | exact none_moves (by assumption) (by assumption) | exact none_moves (by assumption) (none_in (by assumption)) | exact none_in (none_moves (by assumption) (by assumption)) | exact none_in (none_in (none_moves (by assumption) (by assumption))) | fail) | exact ne_none (by first | assumption | exact none_in (by assumption) | exact none_in (none_in (by assumption)) | exact none_in (none_in (none_in (by assumption))) | exact none_moves (by assumption) (by assumption) | exact none_moves (by assumption) (none_in (by assumption)) | exact none_in (none_moves (by assumption) (by assumption)) | exact none_in (none_in (none_moves (by assumption) (by assumption))) | fail) | exact Ne.symm (by assumption) | exact ne_some (by assumption) (by assumption) | fail) | apply hb_moves (by assumption)); first | (first | exact setBox_same | assumption) | fail) | fail) | fail) | fail) | fail) | fail) | fail)); (focus (conv => (lhs; whnf))); (focus (exact rfl)); (focus (conv => (lhs; whnf))); (focus (exact rfl)); (focus (exact of_decide_eq_true rfl)); (focus (first | exact setL_whole rfl | exact setL_one | exact rfl))) | (apply r_callM; (focus (exact rfl)); (focus (exact rfl)); (focus (decide)); (focus (first | exact rfl | exact want_t rfl rfl rfl (by first | exact rfl | assumption | (simp [Nat.reduceEqDiff]; done) | fail) | fail)); (focus (exact rfl)); (focus (exact rfl)); (focus (infer_instance)); (focus (fail)); intro tk1 σ1 hm) | fail | (apply r_append'; (focus (exact rfl)); (focus (exact rfl)); (focus (decide)); (focus (infer_instance)); (focus (first | exact rfl | exact want_t rfl rfl rfl (by first | exact rfl | assumption | (simp [Nat.reduceEqDiff]; done) | fail) | fail)); (focus (exact rfl)); (focus (exact rfl)); (focus (exact rfl)); (focus (exact rfl)); (focus (first | assumption | exact Moves.more (by assumption) (by assumption) | fail)); (focus (first | (simp only [length_aBytes, List.length_append, List.length_cons, List.length_nil, List.length_map, List.length_range]; omega) | omega | fail)); intro tk1 σ1 hm) | (apply r_append; (focus (exact rfl)); (focus (exact rfl)); (focus (decide)); (focus (infer_instance)); (focus (first | exact rfl | exact want_t rfl rfl rfl (by first | exact rfl | assumption | (simp [Nat.reduceEqDiff]; done) | fail) | fail)); (focus (exact rfl)); (focus (exact rfl)); (focus (exact rfl)); (focus (exact rfl)); (focus (exact .inl rfl)); (focus (first | (simp only [length_aBytes, List.length_append, List.length_cons, List.length_nil, List.length_map, List.length_range]; omega) | omega | fail)); intro tk1 σ1 hm) | (apply r_op; (focus (exact rfl)); (focus (first | exact rfl | exact want_t rfl rfl rfl (by first | exact rfl | assumption | (simp [Nat.reduceEqDiff]; done) | fail) | fail)); (focus (first | (apply a_move; conv => (lhs; whnf)) | (apply a_assign; conv => (lhs; whnf)) | (apply g_load; first | exact a_load1 rfl rfl | exact a_loadA rfl (by rfl) rfl | fail) | (apply g_fieldAddr; first | exact a_fieldAddr1 rfl (by decide) rfl | exact a_fieldAddrA rfl (by decide) | exact a_fieldAddrP rfl (by decide) | fail) | (apply g_call; first | exact a_len_slc rfl | exact a_len_str rfl | exact a_len_nils rfl | exact a_min rfl rfl | exact a_max rfl rfl | fail) | (apply g_binOp; first | exact a_add64 rfl rfl (by first | omega | (simp only [List.length_cons, List.length_append, List.length_nil, List.length_map, length_aBytes, List.length_replicate, List.length_range]; omega) | fail) | exact a_sub64 rfl rfl (by first | omega | (simp only [List.length_cons, List.length_append, List.length_nil, List.length_map, length_aBytes, List.length_replicate, List.length_range]; omega) | fail) | exact a_mul64 rfl rfl (by first | omega | (simp only [List.length_cons, List.length_append, List.length_nil, List.length_map, length_aBytes, List.length_replicate, List.length_range]; omega) | fail) | exact a_quo64 rfl rfl (by first | omega | (simp only [List.length_cons, List.length_append, List.length_nil, List.length_map, length_aBytes, List.length_replicate, List.length_range]; omega) | fail) | exact a_rem rfl rfl (by first | omega | (simp only [List.length_cons, List.length_append, List.length_nil, List.length_map, length_aBytes, List.length_replicate, List.length_range]; omega) | fail) | (apply a_shr rfl rfl (by first | omega | (simp only [List.length_cons, List.length_append, List.length_nil, List.length_map, length_aBytes, List.length_replicate, List.length_range]; omega) | fail); conv => (lhs; whnf)) | exact a_u8add rfl rfl | exact a_u8sub rfl rfl | exact a_u8or rfl rfl | exact a_u8and rfl rfl | exact a_u8orC rfl rfl (by first | omega | (simp only [List.length_cons, List.length_append, List.length_nil, List.length_map, length_aBytes, List.length_replicate, List.length_range]; omega) | fail) | exact a_u8andC rfl rfl (by first | omega | (simp only [List.length_cons, List.length_append, List.length_nil, List.length_map, length_aBytes, List.length_replicate, List.length_range]; omega) | fail) | exact a_binI rfl rfl rfl | exact a_addS rfl rfl (by first | (simp only [length_aBytes, List.length_append, List.length_cons, List.length_nil, List.length_map, List.length_range]; omega) | omega | fail) | exact a_binS rfl rfl rfl rfl | exact a_binB rfl rfl rfl | exact a_nilS rfl rfl rfl rfl rfl rfl | exact a_nilP rfl rfl rfl rfl rfl rfl | exact a_nilF rfl rfl rfl rfl rfl rfl | fail | fail) | (apply g_indexAddr; first | exact a_indexAddr rfl rfl (by decide) (by first | omega | (simp only [List.length_cons, List.length_append, List.length_nil, List.length_map, length_aBytes, List.length_replicate, List.length_range]; omega) | fail) (by first | assumption | exact get_map (by assumption) | exact get_bytes (by assumption) | fail) | exact a_indexAddrR rfl rfl (by first | omega | (simp only [List.length_cons, List.length_append, List.length_nil, List.length_map, length_aBytes, List.length_replicate, List.length_range]; omega) | fail) | exact a_indexAddrM rfl rfl (by first | omega | (simp only [List.length_cons, List.length_append, List.length_nil, List.length_map, length_aBytes, List.length_replicate, List.length_range]; omega) | fail) | fail) | (apply g_index; first | exact a_indexS rfl rfl (by first | omega | (simp only [List.length_cons, List.length_append, List.length_nil, List.length_map, length_aBytes, List.length_replicate, List.length_range]; omega) | fail) (by first | assumption | exact get_map (by assumption) | exact get_bytes (by assumption) | fail) | fail) | (apply g_convert; first | exact a_convB rfl | exact a_convI rfl | exact a_bytesStr rfl | exact a_bytesStrX rfl (by repeat (first | exact toB_nil | apply toB_cons | apply toB_consC _ (by first | omega | (simp only [List.length_cons, List.length_append, List.length_nil, List.length_map, length_aBytes, List.length_replicate, List.length_range]; omega) | fail))) | exact a_nilsStr rfl | exact a_strBytes rfl (by first | (simp only [length_aBytes, List.length_append, List.length_cons, List.length_nil, List.length_map, List.length_range]; omega) | omega | fail) | fail) | (apply g_buildSlice; first | (apply a_build1; (conv => (lhs; whnf)); exact rfl; exact rfl; decide) | exact a_build1 rfl rfl (by rfl) (by decide) | (apply a_buildN; (focus (repeat (first | exact EvP.nil | apply EvP.cons (by conv => (lhs; whnf))))); (focus (conv => (lhs; whnf))); (focus exact rfl); (focus exact rfl); decide) | fail) | (apply g_build; first | (apply a_build; (focus (repeat (first | exact EvP.nil | apply EvP.cons (by conv => (lhs; whnf))))); (focus (simp only [aFill, List.getElem?_cons_zero, List.getElem?_cons_succ, AV.cells, List.length_cons, List.length_nil, AV.flat, AV.one, setL, List.set_cons_zero, List.set_cons_succ, Nat.reduceAdd, Nat.reduceLeDiff, Nat.reduceMul, and_self, if_true, ↓reduceIte, Nat.zero_add, Nat.le_refl, List.range, List.range.loop, List.map_cons, List.map_nil, Nat.zero_le]; rfl))) | fail) | (apply g_pick; first | (apply a_pickT rfl (by first | exact rfl | assumption | fail); conv => (lhs; whnf)) | (apply a_pickF rfl (by first | exact rfl | assumption | fail); conv => (lhs; whnf)) | exact a_pick rfl rfl rfl | fail) | (apply g_unOp; first | exact a_not rfl | exact a_neg64 rfl (by first | omega | (simp only [List.length_cons, List.length_append, List.length_nil, List.length_map, length_aBytes, List.length_replicate, List.length_range]; omega) | fail) | fail) | (apply g_nilCheck; first | exact a_nilCheck rfl rfl | fail) | (apply g_extract; first | exact a_extract rfl rfl | fail) | (apply g_field; first | exact a_field1 rfl rfl | exact a_fieldA rfl | fail) | (apply g_slice; first | exact a_sliceS rfl rfl rfl (by first | omega | (simp only [List.length_cons, List.length_append, List.length_nil, List.length_map, length_aBytes, List.length_replicate, List.length_range]; omega) | fail) | fail | exact a_sliceL rfl rfl rfl (by first | omega | (simp only [List.length_cons, List.length_append, List.length_nil, List.length_map, length_aBytes, List.length_replicate, List.length_range]; omega) | fail) | fail) | exact a_makeFunc rfl rfl | fail | fail | fail))) | (apply q_skip; (focus (exact rfl)); (focus (first | exact want_f rfl rfl rfl (by first | exact rfl | assumption | (simp [Nat.reduceEqDiff]; done) | fail) | fail))) | refine q_split rfl rfl rfl (fun hg => ?_) (fun hg => ?_) | fail))) <;> refine runs_done ?_)) <;> try show W _ _ _ _ _ _ _) | fail))
          all_goals by_cases hq : (c.toNat = 0 ∧ 0 < i ∨ 9007199254740992 < m)
          all_goals first | rw [if_pos hq] at hgn | rw [if_neg hq] at hgn
          all_goals first | (rw [hgn]; rfl) | (exfalso; simp at *; omega) | skip
        · have hc1 : ¬ c.toNat < 128 := fun h => absurd (show (((c &&& Al.byteOf 128).toNat : Nat) : Int) = 0 by have := h128.2 h; omega) (of_decide_eq_false hc)
          rw [if_neg hc1] at hgn
          refine W.skip ?_
          show W _ _ _ _ _ _ _
          refine W.regionL (by decide +kernel) rfl ?_
          apply r_op
          exact rfl
          exact rfl
          apply a_move
          (conv => (lhs; whnf))
          apply r_op
          exact rfl
          exact rfl
          apply g_binOp
          exact a_add64 rfl rfl (by omega)
          apply r_op
          exact rfl
          exact rfl
          apply a_assign
          (conv => (lhs; whnf))
          with_reducible refine runs_done ?_
          exact ⟨k, by omega, i + 1, m, by omega, hn', by omega, hgn, rfl, by exact Has.by (by repeat (first | exact trivial | refine ⟨by first | trivial | exact Weak.refl _ | exact Weak.tok _ _ _ | exact Weak.of_eq (congrArg (AV.int _) (by (first | exact h7 | omega))) | exact Weak.nils _ _ (.inr rfl), ?_⟩))⟩
    · have h8 : i = 8 := by simp at hc; omega
      obtain rfl : k = 0 := by omega
      refine W.exit ?_
      show W _ _ _ _ _ _ _
      refine W.seq ?_
      refine W.label ?_
      show W _ _ _ _ _ _ _
      refine W.seq ?_
      refine W.seq ?_
      refine W.regionL (by decide +kernel) rfl ?_
      apply r_op
      exact rfl
      exact rfl
      apply a_assign
      (conv => (lhs; whnf))
      apply r_op
      exact rfl
      exact rfl
      apply a_assign
      (conv => (lhs; whnf))
      apply r_op
      exact rfl
      exact rfl
      apply a_assign
      (conv => (lhs; whnf))
      with_reducible refine runs_done ?_
      refine W.ret ?_
      show Q Exit.ret _ _
      refine post_q hQ (by apply res_tmp; exact rfl; apply res_tmp; exact rfl; apply res_tmp; exact rfl; exact res_nil) (.inl rfl) (by exact .refl _) ?_
      (conv => (lhs; whnf))
      rw [hgn, gn]; rfl
end Go.Proofs.YtkbmkhhcppfcnaaDoor
end
section
set_option linter.unusedVariables false
set_option linter.unusedSimpArgs false
set_option maxRecDepth 100000
set_option maxHeartbeats 1000000
namespace Go.Proofs.YtkbmkhhcppfcnaaDoor
open Go.Al Go.RowKit
theorem gn_le : ∀ (b : List UInt8) (a k i n : Nat), a + i ≤ b.length → i + k ≤ 8 → (gn b a k i n).2.1 ≤ b.length ∧ (gn b a k i n).1 ≤ 9007199254740992 ∧ (gn b a k i n).2.2 ≤ 11
  | b, a, 0, i, n, h, _ => by simp [gn]
  | b, a, k + 1, i, n, h, h8 => by
    rw [gn]
    split
    · simp
    · rename_i hne
      dsimp only
      split
      · split
        · simp
        · rename_i hq
          refine ⟨?_, ?_, by simp⟩ <;> simp only <;> omega
      · exact gn_le b a k (i + 1) _ (by omega) (by omega)
theorem getNum_le (b : List UInt8) (a : Nat) : (getNum b a).2.1 ≤ b.length ∧ (getNum b a).1 ≤ 9007199254740992 ∧ (getNum b a).2.2 ≤ 11 := by
  unfold getNum
  split
  · simp
  · exact gn_le b a 8 0 0 (by omega) (by omega)
def getText (b : List UInt8) (a most : Nat) : List UInt8 × Nat × Nat :=
  let p := getNum b a
  if p.2.2 ≠ 0 then ([], 0, p.2.2) else if most < p.1 then ([], 0, 3) else if b.length < p.1 + p.2.1 then ([], 0, 10) else ((b.take (p.2.1 + p.1)).drop p.2.1, p.2.1 + p.1, 0)
def eT (p : List UInt8 × Nat × Nat) : AV := .tup [.str p.1, .int .i64 p.2.1, .int .u16 p.2.2]
theorem getText_any (w0 : World) (b : List UInt8) (t : Tok) (a most : Nat) (hb : b.length ≤ 1000000) (ha : a ≤ 1000000) (hm : most ≤ 1000000) : CallP Tryd.prog w0 95 [.slc 1 (aBytes b) t, .int .i64 a, .int .i64 most] (eT (getText b a most)) := by
  refine CallP.start Tryd.func95 rfl Tryd.ntmps95 (by simp) fun σ Q hQ => ?_
  obtain ⟨h1, h2, h3⟩ := getNum_le b a
  have hg := getNum_any w0 b t a (by omega) (by omega)
  unfold getText at hQ
  generalize getNum b a = p at hg h1 h2 h3 hQ
  obtain ⟨n, k, e⟩ := p
  rw [e3] at hg
  dsimp only at h1 h2 h3 hg hQ
  refine W.seq ?_
  refine W.regionL (by decide +kernel) rfl ?_
  apply r_op
  exact rfl
  exact rfl
  apply a_assign
  (conv => (lhs; whnf))
  apply r_op
  exact rfl
  exact rfl
  apply a_assign
  (conv => (lhs; whnf))
  apply r_op
  exact rfl
  exact rfl
  apply a_assign
  (conv => (lhs; whnf))
  with_reducible refine runs_done ?_
  refine W.seq ?_
  refine W.regionL (by decide +kernel) rfl ?_
  apply r_op
  exact rfl
  exact rfl
  apply a_move
  (conv => (lhs; whnf))
  apply r_op
  exact rfl
  exact rfl
  apply a_move
  (conv => (lhs; whnf))
  apply r_callP
  exact rfl
  exact rfl
  exact rfl
  exact rfl
  exact rfl
  infer_instance
  exact hg
  apply r_op
  exact rfl
  exact rfl
  apply a_move
  (conv => (lhs; whnf))
  apply r_op
  exact rfl
  exact rfl
  apply g_extract
  exact a_extract rfl rfl
  apply r_op
  exact rfl
  exact rfl
  apply g_extract
  exact a_extract rfl rfl
  apply r_op
  exact rfl
  exact rfl
  apply g_extract
  exact a_extract rfl rfl
  apply r_op
  exact rfl
  exact rfl
  apply a_assign
  (conv => (lhs; whnf))
  apply r_op
  exact rfl
  exact rfl
  apply a_assign
  (conv => (lhs; whnf))
  apply r_op
  exact rfl
  exact rfl
  apply a_assign
  (conv => (lhs; whnf))
  with_reducible refine runs_done ?_
  refine W.seq ?_
  refine W.block ?_
  refine W.seq ?_
  refine W.regionL (by decide +kernel) rfl ?_
  apply r_op
  exact rfl
  exact rfl
  apply a_move
  (conv => (lhs; whnf))
  apply r_op
  exact rfl
  exact rfl
  apply g_binOp
  exact a_binI rfl rfl rfl
  apply r_op
  exact rfl
  exact rfl
  apply a_assign
  (conv => (lhs; whnf))
  with_reducible refine runs_done ?_
  refine W.cond rfl (fun hc => ?_) (fun hc => ?_)
  refine W.seq ?_
  refine W.regionL (by decide +kernel) rfl ?_
  apply r_op
  exact rfl
  exact rfl
  apply a_move
  (conv => (lhs; whnf))
  apply r_op
  exact rfl
  exact rfl
  apply a_assign
  (conv => (lhs; whnf))
  apply r_op
  exact rfl
  exact rfl
  apply a_assign
  (conv => (lhs; whnf))
  apply r_op
  exact rfl
  exact rfl
  apply a_assign
  (conv => (lhs; whnf))
  with_reducible refine runs_done ?_
  refine W.ret ?_
  show Q Exit.ret _ _
  refine post_q hQ (by apply res_tmp; exact rfl; apply res_tmp; exact rfl; apply res_tmp; exact rfl; exact res_nil) (.inl rfl) (by exact .refl _) ?_
  (conv => (lhs; whnf))
  rotate_left
  refine W.seq ?_
  refine W.regionL (by decide +kernel) rfl ?_
  apply r_op
  exact rfl
  exact rfl
  apply a_move
  (conv => (lhs; whnf))
  apply r_op
  exact rfl
  exact rfl
  apply a_move
  (conv => (lhs; whnf))
  apply r_op
  exact rfl
  exact rfl
  apply g_binOp
  exact a_binI rfl rfl rfl
  apply r_op
  exact rfl
  exact rfl
  apply a_assign
  (conv => (lhs; whnf))
  with_reducible refine runs_done ?_
  refine W.cond rfl (fun hc => ?_) (fun hc => ?_)
  refine W.seq ?_
  refine W.regionL (by decide +kernel) rfl ?_
  apply r_op
  exact rfl
  exact rfl
  apply a_assign
  (conv => (lhs; whnf))
  apply r_op
  exact rfl
  exact rfl
  apply a_assign
  (conv => (lhs; whnf))
  apply r_op
  exact rfl
  exact rfl
  apply a_assign
  (conv => (lhs; whnf))
  with_reducible refine runs_done ?_
  refine W.ret ?_
  show Q Exit.ret _ _
  refine post_q hQ (by apply res_tmp; exact rfl; apply res_tmp; exact rfl; apply res_tmp; exact rfl; exact res_nil) (.inl rfl) (by exact .refl _) ?_
  (conv => (lhs; whnf))
  rotate_left
  refine W.seq ?_
  refine W.regionL (by decide +kernel) rfl ?_
  apply r_op
  exact rfl
  exact rfl
  apply a_move
  (conv => (lhs; whnf))
  apply r_op
  exact rfl
  exact rfl
  apply a_move
  (conv => (lhs; whnf))
  apply r_op
  exact rfl
  exact rfl
  apply g_call
  exact a_len_slc rfl
  apply r_op
  exact rfl
  exact rfl
  apply a_move
  (conv => (lhs; whnf))
  apply r_op
  exact rfl
  exact rfl
  apply g_binOp
  exact a_sub64 rfl rfl (by simp only [List.length_cons, List.length_append, List.length_nil, List.length_map, length_aBytes, List.length_replicate, List.length_range]; omega)
  apply r_op
  exact rfl
  exact rfl
  apply g_binOp
  exact a_binI rfl rfl rfl
  apply r_op
  exact rfl
  exact rfl
  apply a_assign
  (conv => (lhs; whnf))
  with_reducible refine runs_done ?_
  refine W.cond rfl (fun hc => ?_) (fun hc => ?_)
  refine W.seq ?_
  refine W.regionL (by decide +kernel) rfl ?_
  apply r_op
  exact rfl
  exact rfl
  apply a_assign
  (conv => (lhs; whnf))
  apply r_op
  exact rfl
  exact rfl
  apply a_assign
  (conv => (lhs; whnf))
  apply r_op
  exact rfl
  exact rfl
  apply a_assign
  (conv => (lhs; whnf))
  with_reducible refine runs_done ?_
  refine W.ret ?_
  show Q Exit.ret _ _
  refine post_q hQ (by apply res_tmp; exact rfl; apply res_tmp; exact rfl; apply res_tmp; exact rfl; exact res_nil) (.inl rfl) (by exact .refl _) ?_
  (conv => (lhs; whnf))
  rotate_left
  refine W.skip ?_
  show W _ _ _ _ _ _ _
  refine W.seq ?_
  refine W.regionL (by decide +kernel) rfl ?_
  apply r_op
  exact rfl
  exact rfl
  apply a_move
  (conv => (lhs; whnf))
  apply r_op
  exact rfl
  exact rfl
  apply a_move
  (conv => (lhs; whnf))
  apply r_op
  exact rfl
  exact rfl
  apply a_move
  (conv => (lhs; whnf))
  apply r_op
  exact rfl
  exact rfl
  apply a_move
  (conv => (lhs; whnf))
  apply r_op
  exact rfl
  exact rfl
  apply g_binOp
  exact a_add64 rfl rfl (by omega)
  rotate_left
  · have he : e ≠ 0 := by rintro rfl; simp at hc
    rw [if_pos he]; rfl
  · have he : e = 0 := by simpa using ‹(!decide ((e : Int) = 0)) = false›
    have hq := of_decide_eq_true hc
    subst he
    rw [if_neg (by simp), if_pos (by omega)]; rfl
  · have he : e = 0 := by simpa using ‹(!decide ((e : Int) = 0)) = false›
    have hq1 := of_decide_eq_false ‹decide ((most : Int) < (n : Int)) = false›
    have hq := of_decide_eq_true hc
    subst he
    rw [length_aBytes] at hq
    rw [if_neg (by simp), if_neg (by omega), if_pos (by omega)]; rfl
  · have he : e = 0 := by simpa using ‹(!decide ((e : Int) = 0)) = false›
    have hq1 := of_decide_eq_false ‹decide ((most : Int) < (n : Int)) = false›
    have hq := of_decide_eq_false hc
    subst he
    rw [length_aBytes] at hq
    have hla := length_aBytes b
    apply r_op
    exact rfl
    exact rfl
    apply g_slice
    exact a_sliceB rfl rfl rfl (by omega)
    apply r_op
    exact rfl
    exact rfl
    apply g_convert
    exact a_bytesStr rfl
    apply r_op
    exact rfl
    exact rfl
    apply a_move
    (conv => (lhs; whnf))
    apply r_op
    exact rfl
    exact rfl
    apply a_move
    (conv => (lhs; whnf))
    apply r_op
    exact rfl
    exact rfl
    apply g_binOp
    exact a_add64 rfl rfl (by omega)
    apply r_op
    exact rfl
    exact rfl
    apply a_assign
    (conv => (lhs; whnf))
    apply r_op
    exact rfl
    exact rfl
    apply a_assign
    (conv => (lhs; whnf))
    apply r_op
    exact rfl
    exact rfl
    apply a_assign
    (conv => (lhs; whnf))
    with_reducible refine runs_done ?_
    refine W.ret ?_
    show Q Exit.ret _ _
    refine post_q hQ (by apply res_tmp; exact rfl; apply res_tmp; exact rfl; apply res_tmp; exact rfl; exact res_nil) (.inl rfl) (by exact .refl _) ?_
    (conv => (lhs; whnf))
    rw [if_neg (by simp), if_neg (by omega), if_neg (by omega)]
    have e1 : ((k : Int) + (n : Int)).toNat = k + n := by omega
    show AV.tup [.str ((b.take ((k : Int) + (n : Int)).toNat).drop ((k : Int)).toNat), .int .i64 ((k : Int) + (n : Int)), .int .u16 0] = _
    rw [e1]; rfl
def fE : Option Nat → AV
  | none => .nilifc
  | some e => .ifc 140 (.agg [.int .u16 e])
def rd (v : List UInt8) (a : Nat) (f : Option Nat) : List AV := [.slc 1 (aBytes v) .no, .int .i64 a, fE f]
def atN (a k e : Nat) : Nat := if e = 0 then k else a
theorem takeN_any (w0 : World) (v : List UInt8) (a : Nat) (f : Option Nat) (b : Nat) (σ : St) (hv : v.length ≤ 1000000) (ha : a ≤ 1000000) (hb : σ.box b = some (rd v a f)) :
    CallW Tryd.prog w0 90 [.ptr b 0, .fn (.func 91) [] []] σ (fun r s => r = .tup [.int .i64 (getNum v a).1, .int .u16 (getNum v a).2.2] ∧ s = σ.setBox b (rd v (atN a (getNum v a).2.1 (getNum v a).2.2) f)) := by
  refine CallW.start Tryd.func90 rfl Tryd.ntmps90 (by simp) fun Q hQ => ?_
  have hg := getNum_any w0 v .no a (by omega) (by omega)
  generalize getNum v a = p at hg hQ
  obtain ⟨n, k, e⟩ := p
  rw [e3] at hg
  dsimp only at hg hQ
  unfold rd at hb
  refine W.seq ?_
  refine W.regionL (by decide +kernel) rfl ?_
  apply r_op
  exact rfl
  exact rfl
  apply a_assign
  (conv => (lhs; whnf))
  apply r_op
  exact rfl
  exact rfl
  apply a_assign
  (conv => (lhs; whnf))
  with_reducible refine runs_done ?_
  refine W.seq ?_
  refine W.regionDK 1 [] Ty.mixed (by decide +kernel) (by decide +kernel) rfl ?_
  apply r_op
  exact rfl
  exact rfl
  apply a_move
  (conv => (lhs; whnf))
  apply r_op
  exact rfl
  exact rfl
  apply a_move
  (conv => (lhs; whnf))
  apply r_op
  exact rfl
  exact rfl
  apply g_nilCheck
  exact a_nilCheck rfl rfl
  apply r_op
  exact rfl
  exact rfl
  apply g_fieldAddr
  exact a_fieldAddrP rfl (by decide)
  apply r_load
  exact rfl
  exact rfl
  exact rfl
  decide
  exact rfl
  assumption
  exact aLoad1 rfl
  apply r_op
  exact rfl
  exact rfl
  apply a_move
  (conv => (lhs; whnf))
  apply r_op
  exact rfl
  exact rfl
  apply g_nilCheck
  exact a_nilCheck rfl rfl
  apply r_op
  exact rfl
  exact rfl
  apply g_fieldAddr
  exact a_fieldAddrP rfl (by decide)
  apply r_load
  exact rfl
  exact rfl
  exact rfl
  decide
  exact rfl
  assumption
  exact aLoad1 rfl
  apply r_callP
  exact rfl
  exact rfl
  exact rfl
  exact rfl
  exact rfl
  infer_instance
  exact hg
  apply r_op
  exact rfl
  exact rfl
  apply a_move
  (conv => (lhs; whnf))
  apply r_op
  exact rfl
  exact rfl
  apply g_extract
  exact a_extract rfl rfl
  apply r_op
  exact rfl
  exact rfl
  apply g_extract
  exact a_extract rfl rfl
  apply r_op
  exact rfl
  exact rfl
  apply g_extract
  exact a_extract rfl rfl
  apply r_op
  exact rfl
  exact rfl
  apply a_assign
  (conv => (lhs; whnf))
  apply r_op
  exact rfl
  exact rfl
  apply a_assign
  (conv => (lhs; whnf))
  apply r_op
  exact rfl
  exact rfl
  apply a_assign
  (conv => (lhs; whnf))
  with_reducible refine runs_done ?_
  refine W.seq ?_
  refine W.seq ?_
  refine W.regionL (by decide +kernel) rfl ?_
  apply r_op
  exact rfl
  exact rfl
  apply a_move
  (conv => (lhs; whnf))
  apply r_op
  exact rfl
  exact rfl
  apply g_binOp
  exact a_binI rfl rfl rfl
  with_reducible refine runs_done ?_
  refine W.cond rfl (fun hc => ?_) (fun hc => ?_)
  refine W.regionL (by decide +kernel) rfl ?_
  apply r_op
  exact rfl
  exact rfl
  apply a_move
  (conv => (lhs; whnf))
  apply r_op
  exact rfl
  exact rfl
  apply a_move
  (conv => (lhs; whnf))
  apply r_op
  exact rfl
  exact rfl
  apply g_nilCheck
  exact a_nilCheck rfl rfl
  apply r_op
  exact rfl
  exact rfl
  apply g_fieldAddr
  exact a_fieldAddrP rfl (by decide)
  apply r_store
  exact rfl
  exact rfl
  exact rfl
  decide
  infer_instance
  exact rfl
  assumption
  (conv => (lhs; whnf))
  exact rfl
  (conv => (lhs; whnf))
  exact rfl
  exact of_decide_eq_true rfl
  exact rfl
  with_reducible refine runs_done ?_
  refine W.seq ?_
  refine W.regionL (by decide +kernel) rfl ?_
  apply r_op
  exact rfl
  exact rfl
  apply a_move
  (conv => (lhs; whnf))
  apply r_op
  exact rfl
  exact rfl
  apply a_move
  (conv => (lhs; whnf))
  apply r_op
  exact rfl
  exact rfl
  apply a_assign
  (conv => (lhs; whnf))
  apply r_op
  exact rfl
  exact rfl
  apply a_assign
  (conv => (lhs; whnf))
  with_reducible refine runs_done ?_
  refine W.ret ?_
  show Q Exit.ret _ _
  refine post_p hQ rfl rfl ?_
  (conv => (lhs; whnf))
  rotate_left
  refine W.skip ?_
  show W _ _ _ _ _ _ _
  refine W.seq ?_
  refine W.regionL (by decide +kernel) rfl ?_
  apply r_op
  exact rfl
  exact rfl
  apply a_move
  (conv => (lhs; whnf))
  apply r_op
  exact rfl
  exact rfl
  apply a_move
  (conv => (lhs; whnf))
  apply r_op
  exact rfl
  exact rfl
  apply a_assign
  (conv => (lhs; whnf))
  apply r_op
  exact rfl
  exact rfl
  apply a_assign
  (conv => (lhs; whnf))
  with_reducible refine runs_done ?_
  refine W.ret ?_
  show Q Exit.ret _ _
  refine post_p hQ rfl rfl ?_
  (conv => (lhs; whnf))
  rotate_left
  · have he : e = 0 := by simpa using hc
    subst he
    exact ⟨rfl, rfl⟩
  · have he : e ≠ 0 := by simpa using hc
    refine ⟨rfl, ?_⟩
    rw [atN, if_neg he]
    exact (setBox_id hb).symm
def errN (e : Nat) (f : Option Nat) : Option Nat := if e = 0 then f else match f with
  | none => some e
  | some g => some g
theorem keep_any (w0 : World) (v : List UInt8) (a e : Nat) (f : Option Nat) (b : Nat) (σ : St) (hb : σ.box b = some (rd v a f)) :
    CallW Tryd.prog w0 92 [.ptr b 0, .int .u16 e] σ (fun r s => r = .bool ((errN e f).isNone) ∧ s = σ.setBox b (rd v a (errN e f))) := by
  refine CallW.start Tryd.func92 rfl Tryd.ntmps92 (by simp) fun Q hQ => ?_
  unfold rd at hb
  by_cases he : e = 0
  · subst he
    have hd : (!decide (((0 : Nat) : Int) = 0)) = false := rfl
    cases f with
    | none =>
      refine W.seq ?_
      refine W.regionL (by decide +kernel) rfl ?_
      apply r_op
      exact rfl
      exact rfl
      apply a_assign
      (conv => (lhs; whnf))
      with_reducible refine runs_done ?_
      refine W.seq ?_
      refine W.seq ?_
      refine W.regionL (by decide +kernel) rfl ?_
      apply r_op
      exact rfl
      exact rfl
      apply a_move
      (conv => (lhs; whnf))
      apply r_op
      exact rfl
      exact rfl
      apply g_binOp
      exact a_binI rfl rfl rfl
      apply r_op
      exact rfl
      exact rfl
      apply a_move
      (conv => (lhs; whnf))
      apply q_skip
      exact rfl
      exact want_f rfl rfl rfl (by exact rfl)
      apply q_skip
      exact rfl
      exact want_f rfl rfl rfl (by exact rfl)
      apply q_skip
      exact rfl
      exact want_f rfl rfl rfl (by exact rfl)
      apply q_skip
      exact rfl
      exact want_f rfl rfl rfl (by exact rfl)
      apply q_skip
      exact rfl
      exact want_f rfl rfl rfl (by exact rfl)
      apply r_op
      exact rfl
      exact rfl
      apply g_pick
      apply a_pickF rfl (by exact rfl)
      (conv => (lhs; whnf))
      with_reducible refine runs_done ?_
      refine W.condF rfl (by exact rfl) ?_
      refine W.skip ?_
      show W _ _ _ _ _ _ _
      refine W.seq ?_
      refine W.regionL (by decide +kernel) rfl ?_
      apply r_op
      exact rfl
      exact rfl
      apply a_move
      (conv => (lhs; whnf))
      apply r_op
      exact rfl
      exact rfl
      apply g_nilCheck
      exact a_nilCheck rfl rfl
      apply r_op
      exact rfl
      exact rfl
      apply g_fieldAddr
      exact a_fieldAddrP rfl (by decide)
      apply r_load
      exact rfl
      exact rfl
      exact rfl
      decide
      exact rfl
      assumption
      exact aLoad1 rfl
      apply r_op
      exact rfl
      exact rfl
      apply g_binOp
      exact a_nilI rfl rfl (by exact .inl rfl) rfl rfl rfl
      apply r_op
      exact rfl
      exact rfl
      apply a_assign
      (conv => (lhs; whnf))
      with_reducible refine runs_done ?_
      refine W.ret ?_
      show Q Exit.ret _ _
      refine post_p hQ rfl rfl ?_
      (conv => (lhs; whnf))
      exact ⟨rfl, (setBox_id hb).symm⟩
    | some g =>
      refine W.seq ?_
      refine W.regionL (by decide +kernel) rfl ?_
      apply r_op
      exact rfl
      exact rfl
      apply a_assign
      (conv => (lhs; whnf))
      with_reducible refine runs_done ?_
      refine W.seq ?_
      refine W.seq ?_
      refine W.regionL (by decide +kernel) rfl ?_
      apply r_op
      exact rfl
      exact rfl
      apply a_move
      (conv => (lhs; whnf))
      apply r_op
      exact rfl
      exact rfl
      apply g_binOp
      exact a_binI rfl rfl rfl
      apply r_op
      exact rfl
      exact rfl
      apply a_move
      (conv => (lhs; whnf))
      apply q_skip
      exact rfl
      exact want_f rfl rfl rfl (by exact rfl)
      apply q_skip
      exact rfl
      exact want_f rfl rfl rfl (by exact rfl)
      apply q_skip
      exact rfl
      exact want_f rfl rfl rfl (by exact rfl)
      apply q_skip
      exact rfl
      exact want_f rfl rfl rfl (by exact rfl)
      apply q_skip
      exact rfl
      exact want_f rfl rfl rfl (by exact rfl)
      apply r_op
      exact rfl
      exact rfl
      apply g_pick
      apply a_pickF rfl (by exact rfl)
      (conv => (lhs; whnf))
      with_reducible refine runs_done ?_
      refine W.condF rfl (by exact rfl) ?_
      refine W.skip ?_
      show W _ _ _ _ _ _ _
      refine W.seq ?_
      refine W.regionL (by decide +kernel) rfl ?_
      apply r_op
      exact rfl
      exact rfl
      apply a_move
      (conv => (lhs; whnf))
      apply r_op
      exact rfl
      exact rfl
      apply g_nilCheck
      exact a_nilCheck rfl rfl
      apply r_op
      exact rfl
      exact rfl
      apply g_fieldAddr
      exact a_fieldAddrP rfl (by decide)
      apply r_load
      exact rfl
      exact rfl
      exact rfl
      decide
      exact rfl
      assumption
      exact aLoad1 rfl
      apply r_op
      exact rfl
      exact rfl
      apply g_binOp
      exact a_nilI rfl rfl (by exact .inr ⟨_, _, rfl⟩) rfl rfl rfl
      apply r_op
      exact rfl
      exact rfl
      apply a_assign
      (conv => (lhs; whnf))
      with_reducible refine runs_done ?_
      refine W.ret ?_
      show Q Exit.ret _ _
      refine post_p hQ rfl rfl ?_
      (conv => (lhs; whnf))
      exact ⟨rfl, (setBox_id hb).symm⟩
  · have hd : (!decide ((e : Int) = 0)) = true := by simp [he]
    cases f with
    | none =>
      rw [show errN e none = some e from if_neg he] at hQ
      refine W.seq ?_
      refine W.regionL (by decide +kernel) rfl ?_
      apply r_op
      exact rfl
      exact rfl
      apply a_assign
      (conv => (lhs; whnf))
      with_reducible refine runs_done ?_
      refine W.seq ?_
      refine W.seq ?_
      refine W.regionL (by decide +kernel) rfl ?_
      apply r_op
      exact rfl
      exact rfl
      apply a_move
      (conv => (lhs; whnf))
      apply r_op
      exact rfl
      exact rfl
      apply g_binOp
      exact a_binI rfl rfl rfl
      apply r_op
      exact rfl
      exact rfl
      apply a_move
      (conv => (lhs; whnf))
      apply r_op
      exact rfl
      exact want_t rfl rfl rfl (by assumption)
      apply a_move
      (conv => (lhs; whnf))
      apply r_op
      exact rfl
      exact want_t rfl rfl rfl (by assumption)
      apply g_nilCheck
      exact a_nilCheck rfl rfl
      apply r_op
      exact rfl
      exact want_t rfl rfl rfl (by assumption)
      apply g_fieldAddr
      exact a_fieldAddrP rfl (by decide)
      apply r_load
      exact rfl
      exact rfl
      exact rfl
      decide
      exact want_t rfl rfl rfl (by assumption)
      assumption
      exact aLoad1 rfl
      apply r_op
      exact rfl
      exact want_t rfl rfl rfl (by assumption)
      apply g_binOp
      exact a_nilI rfl rfl (by exact .inl rfl) rfl rfl rfl
      apply r_op
      exact rfl
      exact rfl
      apply g_pick
      apply a_pickT rfl (by assumption)
      (conv => (lhs; whnf))
      with_reducible refine runs_done ?_
      refine W.condT rfl (by exact rfl) ?_
      refine W.regionL (by decide +kernel) rfl ?_
      apply r_op
      exact rfl
      exact rfl
      apply a_move
      (conv => (lhs; whnf))
      apply r_op
      exact rfl
      exact rfl
      apply a_move
      (conv => (lhs; whnf))
      apply r_op
      exact rfl
      exact rfl
      apply g_build
      apply a_build
      apply EvP.cons (by (conv => (lhs; whnf)))
      exact EvP.nil
      simp only [aFill, List.getElem?_cons_zero, List.getElem?_cons_succ, AV.cells, List.length_cons, List.length_nil, AV.flat, AV.one, setL, List.set_cons_zero, List.set_cons_succ, Nat.reduceAdd, Nat.reduceLeDiff, Nat.reduceMul, and_self, if_true, ↓reduceIte, Nat.zero_add, Nat.le_refl, List.range, List.range.loop, List.map_cons, List.map_nil, Nat.zero_le]
      rfl
      apply r_op
      exact rfl
      exact rfl
      apply a_mkIface
      (conv => (lhs; whnf))
      apply r_op
      exact rfl
      exact rfl
      apply g_nilCheck
      exact a_nilCheck rfl rfl
      apply r_op
      exact rfl
      exact rfl
      apply g_fieldAddr
      exact a_fieldAddrP rfl (by decide)
      apply r_store
      exact rfl
      exact rfl
      exact rfl
      decide
      infer_instance
      exact rfl
      assumption
      (conv => (lhs; whnf))
      exact rfl
      (conv => (lhs; whnf))
      exact rfl
      exact of_decide_eq_true rfl
      exact rfl
      with_reducible refine runs_done ?_
      refine W.seq ?_
      refine W.regionL (by decide +kernel) rfl ?_
      apply r_op
      exact rfl
      exact rfl
      apply a_move
      (conv => (lhs; whnf))
      apply r_op
      exact rfl
      exact rfl
      apply g_nilCheck
      exact a_nilCheck rfl rfl
      apply r_op
      exact rfl
      exact rfl
      apply g_fieldAddr
      exact a_fieldAddrP rfl (by decide)
      apply r_load
      exact rfl
      exact rfl
      exact rfl
      decide
      exact rfl
      exact setBox_same
      exact aLoad1 rfl
      apply r_op
      exact rfl
      exact rfl
      apply g_binOp
      exact a_nilI rfl rfl (by exact .inr ⟨_, _, rfl⟩) rfl rfl rfl
      apply r_op
      exact rfl
      exact rfl
      apply a_assign
      (conv => (lhs; whnf))
      with_reducible refine runs_done ?_
      refine W.ret ?_
      show Q Exit.ret _ _
      refine post_p hQ rfl rfl ?_
      (conv => (lhs; whnf))
      exact ⟨rfl, rfl⟩
    | some g =>
      rw [show errN e (some g) = some g from if_neg he] at hQ
      refine W.seq ?_
      refine W.regionL (by decide +kernel) rfl ?_
      apply r_op
      exact rfl
      exact rfl
      apply a_assign
      (conv => (lhs; whnf))
      with_reducible refine runs_done ?_
      refine W.seq ?_
      refine W.seq ?_
      refine W.regionL (by decide +kernel) rfl ?_
      apply r_op
      exact rfl
      exact rfl
      apply a_move
      (conv => (lhs; whnf))
      apply r_op
      exact rfl
      exact rfl
      apply g_binOp
      exact a_binI rfl rfl rfl
      apply r_op
      exact rfl
      exact rfl
      apply a_move
      (conv => (lhs; whnf))
      apply r_op
      exact rfl
      exact want_t rfl rfl rfl (by assumption)
      apply a_move
      (conv => (lhs; whnf))
      apply r_op
      exact rfl
      exact want_t rfl rfl rfl (by assumption)
      apply g_nilCheck
      exact a_nilCheck rfl rfl
      apply r_op
      exact rfl
      exact want_t rfl rfl rfl (by assumption)
      apply g_fieldAddr
      exact a_fieldAddrP rfl (by decide)
      apply r_load
      exact rfl
      exact rfl
      exact rfl
      decide
      exact want_t rfl rfl rfl (by assumption)
      assumption
      exact aLoad1 rfl
      apply r_op
      exact rfl
      exact want_t rfl rfl rfl (by assumption)
      apply g_binOp
      exact a_nilI rfl rfl (by exact .inr ⟨_, _, rfl⟩) rfl rfl rfl
      apply r_op
      exact rfl
      exact rfl
      apply g_pick
      apply a_pickT rfl (by assumption)
      (conv => (lhs; whnf))
      with_reducible refine runs_done ?_
      refine W.condF rfl (by exact rfl) ?_
      refine W.skip ?_
      show W _ _ _ _ _ _ _
      refine W.seq ?_
      refine W.regionL (by decide +kernel) rfl ?_
      apply r_op
      exact rfl
      exact rfl
      apply a_move
      (conv => (lhs; whnf))
      apply r_op
      exact rfl
      exact rfl
      apply g_nilCheck
      exact a_nilCheck rfl rfl
      apply r_op
      exact rfl
      exact rfl
      apply g_fieldAddr
      exact a_fieldAddrP rfl (by decide)
      apply r_load
      exact rfl
      exact rfl
      exact rfl
      decide
      exact rfl
      assumption
      exact aLoad1 rfl
      apply r_op
      exact rfl
      exact rfl
      apply g_binOp
      exact a_nilI rfl rfl (by exact .inr ⟨_, _, rfl⟩) rfl rfl rfl
      apply r_op
      exact rfl
      exact rfl
      apply a_assign
      (conv => (lhs; whnf))
      with_reducible refine runs_done ?_
      refine W.ret ?_
      show Q Exit.ret _ _
      refine post_p hQ rfl rfl ?_
      (conv => (lhs; whnf))
      exact ⟨rfl, (setBox_id hb).symm⟩
def rNum (v : List UInt8) (a : Nat) (f : Option Nat) : Nat × Nat × Option Nat :=
  let p := getNum v a
  (if (errN p.2.2 f).isNone then p.1 else 0, atN a p.2.1 p.2.2, errN p.2.2 f)
def rText (v : List UInt8) (a : Nat) (f : Option Nat) (most : Nat) : List UInt8 × Nat × Option Nat :=
  let p := getText v a most
  (if (errN p.2.2 f).isNone then p.1 else [], atN a p.2.1 p.2.2, errN p.2.2 f)
theorem rnum_any (w0 : World) (v : List UInt8) (a : Nat) (f : Option Nat) (b : Nat) (σ : St) (hv : v.length ≤ 1000000) (ha : a ≤ 1000000) (hb : σ.box b = some (rd v a f)) :
    CallW Tryd.prog w0 45 [.ptr b 0] σ (fun r s => r = .int .i64 (rNum v a f).1 ∧ s = σ.setBox b (rd v (rNum v a f).2.1 (rNum v a f).2.2)) := by
  refine CallW.start Tryd.func45 rfl Tryd.ntmps45 (by simp) fun Q hQ => ?_
  have h1 := takeN_any w0 v a f b σ hv ha hb
  unfold rNum at hQ
  generalize getNum v a = p at h1 hQ
  obtain ⟨n, k, e⟩ := p
  dsimp only at h1 hQ
  have h2 := keep_any w0 v (atN a k e) e f b (σ.setBox b (rd v (atN a k e) f)) setBox_same
  rw [setBox_setBox] at h2
  generalize hf : errN e f = g at h2 hQ
  cases g with
  | none =>
    refine W.seq ?_
    refine W.regionL (by decide +kernel) rfl ?_
    apply r_op
    exact rfl
    exact rfl
    apply a_assign
    (conv => (lhs; whnf))
    with_reducible refine runs_done ?_
    refine W.seq ?_
    refine W.regionL (by decide +kernel) rfl ?_
    apply r_op
    exact rfl
    exact rfl
    apply a_move
    (conv => (lhs; whnf))
    apply r_op
    exact rfl
    exact rfl
    apply g_nilCheck
    exact a_nilCheck rfl rfl
    apply r_op
    exact rfl
    exact rfl
    apply g_fieldAddr
    exact a_fieldAddrP rfl (by decide)
    apply r_callS
    exact rfl
    exact rfl
    decide
    exact rfl
    exact rfl
    exact rfl
    infer_instance
    exact h1
    apply r_op
    exact rfl
    exact rfl
    apply a_move
    (conv => (lhs; whnf))
    apply r_op
    exact rfl
    exact rfl
    apply g_extract
    exact a_extract rfl rfl
    apply r_op
    exact rfl
    exact rfl
    apply g_extract
    exact a_extract rfl rfl
    apply r_op
    exact rfl
    exact rfl
    apply a_assign
    (conv => (lhs; whnf))
    apply r_op
    exact rfl
    exact rfl
    apply a_assign
    (conv => (lhs; whnf))
    with_reducible refine runs_done ?_
    refine W.seq ?_
    refine W.seq ?_
    refine W.regionL (by decide +kernel) rfl ?_
    apply r_op
    exact rfl
    exact rfl
    apply a_move
    (conv => (lhs; whnf))
    apply r_op
    exact rfl
    exact rfl
    apply a_move
    (conv => (lhs; whnf))
    apply r_callS
    exact rfl
    exact rfl
    decide
    exact rfl
    exact rfl
    exact rfl
    infer_instance
    exact h2
    apply r_op
    exact rfl
    exact rfl
    apply g_unOp
    exact a_not rfl
    with_reducible refine runs_done ?_
    refine W.condF rfl (by exact rfl) ?_
    refine W.skip ?_
    show W _ _ _ _ _ _ _
    refine W.seq ?_
    refine W.regionL (by decide +kernel) rfl ?_
    apply r_op
    exact rfl
    exact rfl
    apply a_move
    (conv => (lhs; whnf))
    apply r_op
    exact rfl
    exact rfl
    apply a_assign
    (conv => (lhs; whnf))
    with_reducible refine runs_done ?_
    refine W.ret ?_
    show Q Exit.ret _ _
    refine post_p hQ rfl rfl ?_
    (conv => (lhs; whnf))
    exact ⟨rfl, rfl⟩
  | some g =>
    refine W.seq ?_
    refine W.regionL (by decide +kernel) rfl ?_
    apply r_op
    exact rfl
    exact rfl
    apply a_assign
    (conv => (lhs; whnf))
    with_reducible refine runs_done ?_
    refine W.seq ?_
    refine W.regionL (by decide +kernel) rfl ?_
    apply r_op
    exact rfl
    exact rfl
    apply a_move
    (conv => (lhs; whnf))
    apply r_op
    exact rfl
    exact rfl
    apply g_nilCheck
    exact a_nilCheck rfl rfl
    apply r_op
    exact rfl
    exact rfl
    apply g_fieldAddr
    exact a_fieldAddrP rfl (by decide)
    apply r_callS
    exact rfl
    exact rfl
    decide
    exact rfl
    exact rfl
    exact rfl
    infer_instance
    exact h1
    apply r_op
    exact rfl
    exact rfl
    apply a_move
    (conv => (lhs; whnf))
    apply r_op
    exact rfl
    exact rfl
    apply g_extract
    exact a_extract rfl rfl
    apply r_op
    exact rfl
    exact rfl
    apply g_extract
    exact a_extract rfl rfl
    apply r_op
    exact rfl
    exact rfl
    apply a_assign
    (conv => (lhs; whnf))
    apply r_op
    exact rfl
    exact rfl
    apply a_assign
    (conv => (lhs; whnf))
    with_reducible refine runs_done ?_
    refine W.seq ?_
    refine W.seq ?_
    refine W.regionL (by decide +kernel) rfl ?_
    apply r_op
    exact rfl
    exact rfl
    apply a_move
    (conv => (lhs; whnf))
    apply r_op
    exact rfl
    exact rfl
    apply a_move
    (conv => (lhs; whnf))
    apply r_callS
    exact rfl
    exact rfl
    decide
    exact rfl
    exact rfl
    exact rfl
    infer_instance
    exact h2
    apply r_op
    exact rfl
    exact rfl
    apply g_unOp
    exact a_not rfl
    with_reducible refine runs_done ?_
    refine W.condT rfl (by exact rfl) ?_
    refine W.seq ?_
    refine W.regionL (by decide +kernel) rfl ?_
    apply r_op
    exact rfl
    exact rfl
    apply a_assign
    (conv => (lhs; whnf))
    with_reducible refine runs_done ?_
    refine W.ret ?_
    show Q Exit.ret _ _
    refine post_p hQ rfl rfl ?_
    (conv => (lhs; whnf))
    exact ⟨rfl, rfl⟩
theorem text1_any (w0 : World) (v : List UInt8) (t : Tok) (a most : Nat) (hv : v.length ≤ 1000000) (ha : a ≤ 1000000) (hm : most ≤ 1000000) : CallP Tryd.prog w0 94 [.slc 1 (aBytes v) t, .int .i64 a, .vp (.int .i64 most)] (eT (getText v a most)) := by
  refine CallP.start Tryd.func94 rfl Tryd.ntmps94 (by simp) fun σ Q hQ => ?_
  have hg := getText_any w0 v t a most hv ha hm
  generalize getText v a most = p at hg hQ
  obtain ⟨n, k, e⟩ := p
  rw [eT] at hg
  refine W.seq ?_
  refine W.regionL (by decide +kernel) rfl ?_
  apply r_op
  exact rfl
  exact rfl
  apply a_assign
  (conv => (lhs; whnf))
  apply r_op
  exact rfl
  exact rfl
  apply a_assign
  (conv => (lhs; whnf))
  apply r_op
  exact rfl
  exact rfl
  apply a_assign
  (conv => (lhs; whnf))
  with_reducible refine runs_done ?_
  refine W.seq ?_
  refine W.regionL (by decide +kernel) rfl ?_
  apply r_op
  exact rfl
  exact rfl
  apply a_move
  (conv => (lhs; whnf))
  apply r_op
  exact rfl
  exact rfl
  apply a_move
  (conv => (lhs; whnf))
  apply r_op
  exact rfl
  exact rfl
  apply g_load
  exact a_load1 rfl rfl
  apply r_callP
  exact rfl
  exact rfl
  exact rfl
  exact rfl
  exact rfl
  infer_instance
  exact hg
  apply r_op
  exact rfl
  exact rfl
  apply g_extract
  exact a_extract rfl rfl
  apply r_op
  exact rfl
  exact rfl
  apply g_extract
  exact a_extract rfl rfl
  apply r_op
  exact rfl
  exact rfl
  apply g_extract
  exact a_extract rfl rfl
  apply r_op
  exact rfl
  exact rfl
  apply a_assign
  (conv => (lhs; whnf))
  apply r_op
  exact rfl
  exact rfl
  apply a_assign
  (conv => (lhs; whnf))
  apply r_op
  exact rfl
  exact rfl
  apply a_assign
  (conv => (lhs; whnf))
  with_reducible refine runs_done ?_
  refine W.ret ?_
  show Q Exit.ret _ _
  refine post_q hQ (by apply res_tmp; exact rfl; apply res_tmp; exact rfl; apply res_tmp; exact rfl; exact res_nil) (.inl rfl) (by exact .refl _) ?_
  (conv => (lhs; whnf))
  rfl
theorem takeT_any (w0 : World) (v : List UInt8) (a most : Nat) (f : Option Nat) (b : Nat) (σ : St) (hv : v.length ≤ 1000000) (ha : a ≤ 1000000) (hm : most ≤ 1000000) (hb : σ.box b = some (rd v a f)) :
    CallW Tryd.prog w0 93 [.ptr b 0, .fn (.func 94) [] [.vp (.int .i64 most)]] σ (fun r s => r = .tup [.str (getText v a most).1, .int .u16 (getText v a most).2.2] ∧ s = σ.setBox b (rd v (atN a (getText v a most).2.1 (getText v a most).2.2) f)) := by
  refine CallW.start Tryd.func93 rfl Tryd.ntmps93 (by simp) fun Q hQ => ?_
  have hg := text1_any w0 v .no a most (by omega) (by omega) hm
  generalize getText v a most = p at hg hQ
  obtain ⟨n, k, e⟩ := p
  rw [eT] at hg
  dsimp only at hg hQ
  unfold rd at hb
  refine W.seq ?_
  refine W.regionL (by decide +kernel) rfl ?_
  apply r_op
  exact rfl
  exact rfl
  apply a_assign
  (conv => (lhs; whnf))
  apply r_op
  exact rfl
  exact rfl
  apply a_assign
  (conv => (lhs; whnf))
  with_reducible refine runs_done ?_
  refine W.seq ?_
  refine W.regionDK 1 [] Ty.mixed (by decide +kernel) (by decide +kernel) rfl ?_
  apply r_op
  exact rfl
  exact rfl
  apply a_move
  (conv => (lhs; whnf))
  apply r_op
  exact rfl
  exact rfl
  apply a_move
  (conv => (lhs; whnf))
  apply r_op
  exact rfl
  exact rfl
  apply g_nilCheck
  exact a_nilCheck rfl rfl
  apply r_op
  exact rfl
  exact rfl
  apply g_fieldAddr
  exact a_fieldAddrP rfl (by decide)
  apply r_load
  exact rfl
  exact rfl
  exact rfl
  decide
  exact rfl
  assumption
  exact aLoad1 rfl
  apply r_op
  exact rfl
  exact rfl
  apply a_move
  (conv => (lhs; whnf))
  apply r_op
  exact rfl
  exact rfl
  apply g_nilCheck
  exact a_nilCheck rfl rfl
  apply r_op
  exact rfl
  exact rfl
  apply g_fieldAddr
  exact a_fieldAddrP rfl (by decide)
  apply r_load
  exact rfl
  exact rfl
  exact rfl
  decide
  exact rfl
  assumption
  exact aLoad1 rfl
  apply r_callP
  exact rfl
  exact rfl
  exact rfl
  exact rfl
  exact rfl
  infer_instance
  exact hg
  apply r_op
  exact rfl
  exact rfl
  apply a_move
  (conv => (lhs; whnf))
  apply r_op
  exact rfl
  exact rfl
  apply g_extract
  exact a_extract rfl rfl
  apply r_op
  exact rfl
  exact rfl
  apply g_extract
  exact a_extract rfl rfl
  apply r_op
  exact rfl
  exact rfl
  apply g_extract
  exact a_extract rfl rfl
  apply r_op
  exact rfl
  exact rfl
  apply a_assign
  (conv => (lhs; whnf))
  apply r_op
  exact rfl
  exact rfl
  apply a_assign
  (conv => (lhs; whnf))
  apply r_op
  exact rfl
  exact rfl
  apply a_assign
  (conv => (lhs; whnf))
  with_reducible refine runs_done ?_
  refine W.seq ?_
  refine W.seq ?_
  refine W.regionL (by decide +kernel) rfl ?_
  apply r_op
  exact rfl
  exact rfl
  apply a_move
  (conv => (lhs; whnf))
  apply r_op
  exact rfl
  exact rfl
  apply g_binOp
  exact a_binI rfl rfl rfl
  with_reducible refine runs_done ?_
  refine W.cond rfl (fun hc => ?_) (fun hc => ?_)
  refine W.regionL (by decide +kernel) rfl ?_
  apply r_op
  exact rfl
  exact rfl
  apply a_move
  (conv => (lhs; whnf))
  apply r_op
  exact rfl
  exact rfl
  apply a_move
  (conv => (lhs; whnf))
  apply r_op
  exact rfl
  exact rfl
  apply g_nilCheck
  exact a_nilCheck rfl rfl
  apply r_op
  exact rfl
  exact rfl
  apply g_fieldAddr
  exact a_fieldAddrP rfl (by decide)
  apply r_store
  exact rfl
  exact rfl
  exact rfl
  decide
  infer_instance
  exact rfl
  assumption
  (conv => (lhs; whnf))
  exact rfl
  (conv => (lhs; whnf))
  exact rfl
  exact of_decide_eq_true rfl
  exact rfl
  with_reducible refine runs_done ?_
  refine W.seq ?_
  refine W.regionL (by decide +kernel) rfl ?_
  apply r_op
  exact rfl
  exact rfl
  apply a_move
  (conv => (lhs; whnf))
  apply r_op
  exact rfl
  exact rfl
  apply a_move
  (conv => (lhs; whnf))
  apply r_op
  exact rfl
  exact rfl
  apply a_assign
  (conv => (lhs; whnf))
  apply r_op
  exact rfl
  exact rfl
  apply a_assign
  (conv => (lhs; whnf))
  with_reducible refine runs_done ?_
  refine W.ret ?_
  show Q Exit.ret _ _
  refine post_p hQ rfl rfl ?_
  (conv => (lhs; whnf))
  rotate_left
  refine W.skip ?_
  show W _ _ _ _ _ _ _
  refine W.seq ?_
  refine W.regionL (by decide +kernel) rfl ?_
  apply r_op
  exact rfl
  exact rfl
  apply a_move
  (conv => (lhs; whnf))
  apply r_op
  exact rfl
  exact rfl
  apply a_move
  (conv => (lhs; whnf))
  apply r_op
  exact rfl
  exact rfl
  apply a_assign
  (conv => (lhs; whnf))
  apply r_op
  exact rfl
  exact rfl
  apply a_assign
  (conv => (lhs; whnf))
  with_reducible refine runs_done ?_
  refine W.ret ?_
  show Q Exit.ret _ _
  refine post_p hQ rfl rfl ?_
  (conv => (lhs; whnf))
  rotate_left
  · have he : e = 0 := by simpa using hc
    subst he
    exact ⟨rfl, rfl⟩
  · have he : e ≠ 0 := by simpa using hc
    refine ⟨rfl, ?_⟩
    rw [atN, if_neg he]
    exact (setBox_id hb).symm
theorem rtext_any (w0 : World) (v : List UInt8) (a most : Nat) (f : Option Nat) (b : Nat) (σ : St) (hv : v.length ≤ 1000000) (ha : a ≤ 1000000) (hm : most ≤ 1000000) (hb : σ.box b = some (rd v a f)) :
    CallW Tryd.prog w0 47 [.ptr b 0, .int .i64 most] σ (fun r s => r = .str (rText v a f most).1 ∧ s = σ.setBox b (rd v (rText v a f most).2.1 (rText v a f most).2.2)) := by
  refine CallW.start Tryd.func47 rfl Tryd.ntmps47 (by simp) fun Q hQ => ?_
  have h1 := takeT_any w0 v a most f b σ hv ha hm hb
  unfold rText at hQ
  generalize getText v a most = p at h1 hQ
  obtain ⟨n, k, e⟩ := p
  dsimp only at h1 hQ
  have h2 := keep_any w0 v (atN a k e) e f b (σ.setBox b (rd v (atN a k e) f)) setBox_same
  rw [setBox_setBox] at h2
  generalize hf : errN e f = g at h2 hQ
  cases g with
  | none =>
    refine W.seq ?_
    refine W.regionL (by decide +kernel) rfl ?_
    apply r_boxF
    exact rfl
    exact rfl
    exact rfl
    (conv => (lhs; whnf))
    exact rfl
    apply r_op
    exact rfl
    exact rfl
    apply a_assign
    (conv => (lhs; whnf))
    with_reducible refine runs_done ?_
    refine W.seq ?_
    refine W.regionL (by decide +kernel) rfl ?_
    apply r_op
    exact rfl
    exact rfl
    apply a_move
    (conv => (lhs; whnf))
    apply r_op
    exact rfl
    exact rfl
    apply g_nilCheck
    exact a_nilCheck rfl rfl
    apply r_op
    exact rfl
    exact rfl
    apply g_fieldAddr
    exact a_fieldAddrP rfl (by decide)
    apply r_op
    exact rfl
    exact rfl
    exact a_makeFunc rfl rfl
    apply r_callS
    exact rfl
    exact rfl
    decide
    exact rfl
    exact rfl
    exact rfl
    infer_instance
    exact h1
    apply r_op
    exact rfl
    exact rfl
    apply a_move
    (conv => (lhs; whnf))
    apply r_op
    exact rfl
    exact rfl
    apply g_extract
    exact a_extract rfl rfl
    apply r_op
    exact rfl
    exact rfl
    apply g_extract
    exact a_extract rfl rfl
    apply r_op
    exact rfl
    exact rfl
    apply a_assign
    (conv => (lhs; whnf))
    apply r_op
    exact rfl
    exact rfl
    apply a_assign
    (conv => (lhs; whnf))
    with_reducible refine runs_done ?_
    refine W.seq ?_
    refine W.seq ?_
    refine W.regionL (by decide +kernel) rfl ?_
    apply r_op
    exact rfl
    exact rfl
    apply a_move
    (conv => (lhs; whnf))
    apply r_op
    exact rfl
    exact rfl
    apply a_move
    (conv => (lhs; whnf))
    apply r_callS
    exact rfl
    exact rfl
    decide
    exact rfl
    exact rfl
    exact rfl
    infer_instance
    exact h2
    apply r_op
    exact rfl
    exact rfl
    apply g_unOp
    exact a_not rfl
    with_reducible refine runs_done ?_
    refine W.condF rfl (by exact rfl) ?_
    refine W.skip ?_
    show W _ _ _ _ _ _ _
    refine W.seq ?_
    refine W.regionL (by decide +kernel) rfl ?_
    apply r_op
    exact rfl
    exact rfl
    apply a_move
    (conv => (lhs; whnf))
    apply r_op
    exact rfl
    exact rfl
    apply a_assign
    (conv => (lhs; whnf))
    with_reducible refine runs_done ?_
    refine W.ret ?_
    show Q Exit.ret _ _
    refine post_p hQ rfl rfl ?_
    (conv => (lhs; whnf))
    exact ⟨rfl, rfl⟩
  | some g =>
    refine W.seq ?_
    refine W.regionL (by decide +kernel) rfl ?_
    apply r_boxF
    exact rfl
    exact rfl
    exact rfl
    (conv => (lhs; whnf))
    exact rfl
    apply r_op
    exact rfl
    exact rfl
    apply a_assign
    (conv => (lhs; whnf))
    with_reducible refine runs_done ?_
    refine W.seq ?_
    refine W.regionL (by decide +kernel) rfl ?_
    apply r_op
    exact rfl
    exact rfl
    apply a_move
    (conv => (lhs; whnf))
    apply r_op
    exact rfl
    exact rfl
    apply g_nilCheck
    exact a_nilCheck rfl rfl
    apply r_op
    exact rfl
    exact rfl
    apply g_fieldAddr
    exact a_fieldAddrP rfl (by decide)
    apply r_op
    exact rfl
    exact rfl
    exact a_makeFunc rfl rfl
    apply r_callS
    exact rfl
    exact rfl
    decide
    exact rfl
    exact rfl
    exact rfl
    infer_instance
    exact h1
    apply r_op
    exact rfl
    exact rfl
    apply a_move
    (conv => (lhs; whnf))
    apply r_op
    exact rfl
    exact rfl
    apply g_extract
    exact a_extract rfl rfl
    apply r_op
    exact rfl
    exact rfl
    apply g_extract
    exact a_extract rfl rfl
    apply r_op
    exact rfl
    exact rfl
    apply a_assign
    (conv => (lhs; whnf))
    apply r_op
    exact rfl
    exact rfl
    apply a_assign
    (conv => (lhs; whnf))
    with_reducible refine runs_done ?_
    refine W.seq ?_
    refine W.seq ?_
    refine W.regionL (by decide +kernel) rfl ?_
    apply r_op
    exact rfl
    exact rfl
    apply a_move
    (conv => (lhs; whnf))
    apply r_op
    exact rfl
    exact rfl
    apply a_move
    (conv => (lhs; whnf))
    apply r_callS
    exact rfl
    exact rfl
    decide
    exact rfl
    exact rfl
    exact rfl
    infer_instance
    exact h2
    apply r_op
    exact rfl
    exact rfl
    apply g_unOp
    exact a_not rfl
    with_reducible refine runs_done ?_
    refine W.condT rfl (by exact rfl) ?_
    refine W.seq ?_
    refine W.regionL (by decide +kernel) rfl ?_
    apply r_op
    exact rfl
    exact rfl
    apply a_assign
    (conv => (lhs; whnf))
    with_reducible refine runs_done ?_
    refine W.ret ?_
    show Q Exit.ret _ _
    refine post_p hQ rfl rfl ?_
    (conv => (lhs; whnf))
    exact ⟨rfl, rfl⟩
end Go.Proofs.YtkbmkhhcppfcnaaDoor
end
section
set_option linter.unusedVariables false
set_option linter.unusedSimpArgs false
set_option maxHeartbeats 400000
namespace Go.Proofs.YtkbmkhhcppfcnaaDoor
open Go.Al Go.RowKit
theorem row_ext {x y : Row} (h : x.key = y.key) (k : x.val = y.val) : x = y := by cases x; cases y; simp_all
theorem take_succ_iff {α : Type} {a b : List α} {i : Nat} (h : i < a.length) (k : i < b.length) (e : a.take i = b.take i) : a.take (i + 1) = b.take (i + 1) ↔ a[i] = b[i] := by
  rw [List.take_succ_eq_append_getElem h, List.take_succ_eq_append_getElem k, e]
  exact ⟨fun h => by simpa using List.append_cancel_left h, fun h => by rw [h]⟩
set_option maxRecDepth 100000 in
theorem sameRows_any (w0 : World) (a b : List Row) (ha : a.length ≤ 1000000000) : CallP Tryd.prog w0 15 [eRows a, eRows b] (.bool (decide (a = b))) := by
  refine CallP.start Tryd.func15 rfl Tryd.ntmps15 (by simp) fun σ Q hQ => ?_
  refine W.seq ?_
  refine W.regionL (by decide +kernel) rfl ?_
  apply r_op
  exact rfl
  exact rfl
  apply a_assign
  (conv => (lhs; whnf))
  with_reducible refine runs_done ?_
  refine W.seq ?_
  refine W.seq ?_
  refine W.regionL (by decide +kernel) rfl ?_
  apply r_op
  exact rfl
  exact rfl
  apply a_move
  (conv => (lhs; whnf))
  apply r_op
  exact rfl
  exact rfl
  apply g_call
  exact a_len_slc rfl
  apply r_op
  exact rfl
  exact rfl
  apply a_move
  (conv => (lhs; whnf))
  apply r_op
  exact rfl
  exact rfl
  apply g_call
  exact a_len_slc rfl
  apply r_op
  exact rfl
  exact rfl
  apply g_binOp
  exact a_binI rfl rfl rfl
  with_reducible refine runs_done ?_
  refine W.cond rfl (fun hc => ?_) (fun hc => ?_)
  refine W.seq ?_
  refine W.regionL (by decide +kernel) rfl ?_
  apply r_op
  exact rfl
  exact rfl
  apply a_assign
  (conv => (lhs; whnf))
  with_reducible refine runs_done ?_
  refine W.ret ?_
  show Q Exit.ret _ _
  refine post_q hQ (by apply res_tmp; exact rfl; exact res_nil) (.inl rfl) (by exact .refl _) ?_
  (conv => (lhs; whnf))
  rotate_left
  refine W.skip ?_
  show W _ _ _ _ _ _ _
  refine W.seq ?_
  refine W.seq ?_
  refine W.regionL (by decide +kernel) rfl ?_
  apply r_op
  exact rfl
  exact rfl
  apply a_assign
  (conv => (lhs; whnf))
  with_reducible refine runs_done ?_
  refine W.block ?_
  rotate_left
  · have : ¬ a = b := by rintro rfl; simp at hc
    simp [this]
  · have hlen : a.length = b.length := by simp at hc; omega
    clear hc
    refine W.loop (fun k E s => ∃ i : Nat, i ≤ a.length ∧ k = a.length - i ∧ s = σ ∧ a.take i = b.take i ∧ Has [(0, eRows a), (1, eRows b), (5, .int .i64 i)] E) a.length ⟨0, Nat.zero_le _, rfl, rfl, by simp, by exact Has.by (by repeat (first | exact trivial | refine ⟨by first | trivial | exact Weak.refl _ | exact Weak.tok _ _ _ | exact Weak.of_eq (congrArg (AV.int _) (by omega)) | exact Weak.nils _ _ (.inr rfl), ?_⟩))⟩ ?_
    rintro k E s ⟨i, hi, rfl, rfl, htk, hE⟩
    refine W.has hE ?_
    clear hE
    refine W.seq ?_
    refine W.seq ?_
    refine W.regionL (by decide +kernel) rfl ?_
    apply r_op
    exact rfl
    exact rfl
    apply a_move
    (conv => (lhs; whnf))
    apply r_op
    exact rfl
    exact rfl
    apply a_move
    (conv => (lhs; whnf))
    apply r_op
    exact rfl
    exact rfl
    apply g_call
    exact a_len_slc rfl
    apply r_op
    exact rfl
    exact rfl
    apply g_binOp
    exact a_binI rfl rfl rfl
    with_reducible refine runs_done ?_
    refine W.cond rfl (fun hc => ?_) (fun hc => ?_)
    · have hlt : i < a.length := by simp at hc; omega
      have ga : a[i]? = some a[i] := by simp [hlt]
      have gb : b[i]? = some (b[i]'(by omega)) := List.getElem?_eq_getElem (by omega)
      have ht := take_succ_iff hlt (show i < b.length by omega) htk
      generalize a[i] = x at ga ht
      generalize b[i]'(by omega) = y at gb ht
      refine W.skip ?_
      show W _ _ _ _ _ _ _
      refine W.seq ?_
      refine W.block ?_
      refine W.seq ?_
      refine W.regionDK 1 [] Ty.mixed (by decide +kernel) (by decide +kernel) rfl ?_
      apply r_op
      exact rfl
      exact rfl
      apply a_move
      (conv => (lhs; whnf))
      apply r_op
      exact rfl
      exact rfl
      apply a_move
      (conv => (lhs; whnf))
      apply r_op
      exact rfl
      exact rfl
      apply g_indexAddr
      exact a_indexAddr rfl rfl (by decide) (by omega) (by exact get_map (by assumption))
      apply r_op
      exact rfl
      exact rfl
      apply g_fieldAddr
      exact a_fieldAddr1 rfl (by decide) rfl
      apply r_op
      exact rfl
      exact rfl
      apply g_load
      exact a_load1 rfl rfl
      apply r_op
      exact rfl
      exact rfl
      apply a_move
      (conv => (lhs; whnf))
      apply r_op
      exact rfl
      exact rfl
      apply a_move
      (conv => (lhs; whnf))
      apply r_op
      exact rfl
      exact rfl
      apply g_indexAddr
      exact a_indexAddr rfl rfl (by decide) (by omega) (by exact get_map (by assumption))
      apply r_op
      exact rfl
      exact rfl
      apply g_fieldAddr
      exact a_fieldAddr1 rfl (by decide) rfl
      apply r_op
      exact rfl
      exact rfl
      apply g_load
      exact a_load1 rfl rfl
      apply r_op
      exact rfl
      exact rfl
      apply g_binOp
      exact a_binS rfl rfl rfl rfl
      apply r_op
      exact rfl
      exact rfl
      apply a_move
      (conv => (lhs; whnf))
      refine q_split rfl rfl rfl (fun hg => ?_) (fun hg => ?_)
      apply q_skip
      exact rfl
      exact want_f rfl rfl rfl (by assumption)
      apply q_skip
      exact rfl
      exact want_f rfl rfl rfl (by assumption)
      apply q_skip
      exact rfl
      exact want_f rfl rfl rfl (by assumption)
      apply q_skip
      exact rfl
      exact want_f rfl rfl rfl (by assumption)
      apply q_skip
      exact rfl
      exact want_f rfl rfl rfl (by assumption)
      apply q_skip
      exact rfl
      exact want_f rfl rfl rfl (by assumption)
      apply q_skip
      exact rfl
      exact want_f rfl rfl rfl (by assumption)
      apply q_skip
      exact rfl
      exact want_f rfl rfl rfl (by assumption)
      apply q_skip
      exact rfl
      exact want_f rfl rfl rfl (by assumption)
      apply q_skip
      exact rfl
      exact want_f rfl rfl rfl (by assumption)
      apply q_skip
      exact rfl
      exact want_f rfl rfl rfl (by assumption)
      apply q_skip
      exact rfl
      exact want_f rfl rfl rfl (by assumption)
      apply q_skip
      exact rfl
      exact want_f rfl rfl rfl (by assumption)
      apply r_op
      exact rfl
      exact rfl
      apply g_pick
      apply a_pickT rfl (by assumption)
      (conv => (lhs; whnf))
      with_reducible refine runs_done ?_
      refine W.condT rfl (by exact rfl) ?_
      refine W.seq ?_
      refine W.regionL (by decide +kernel) rfl ?_
      apply r_op
      exact rfl
      exact rfl
      apply a_assign
      (conv => (lhs; whnf))
      with_reducible refine runs_done ?_
      refine W.ret ?_
      show Q Exit.ret _ _
      refine post_q hQ (by apply res_tmp; exact rfl; exact res_nil) (.inl rfl) (by exact .refl _) ?_
      (conv => (lhs; whnf))
      rotate_left
      apply r_op
      exact rfl
      exact want_t rfl rfl rfl (by assumption)
      apply a_move
      (conv => (lhs; whnf))
      apply r_op
      exact rfl
      exact want_t rfl rfl rfl (by assumption)
      apply a_move
      (conv => (lhs; whnf))
      apply r_op
      exact rfl
      exact want_t rfl rfl rfl (by assumption)
      apply g_indexAddr
      exact a_indexAddr rfl rfl (by decide) (by omega) (by exact get_map (by assumption))
      apply r_op
      exact rfl
      exact want_t rfl rfl rfl (by assumption)
      apply g_fieldAddr
      exact a_fieldAddr1 rfl (by decide) rfl
      apply r_op
      exact rfl
      exact want_t rfl rfl rfl (by assumption)
      apply g_load
      exact a_load1 rfl rfl
      apply r_op
      exact rfl
      exact want_t rfl rfl rfl (by assumption)
      apply g_convert
      exact a_bytesStr rfl
      apply r_op
      exact rfl
      exact want_t rfl rfl rfl (by assumption)
      apply a_move
      (conv => (lhs; whnf))
      apply r_op
      exact rfl
      exact want_t rfl rfl rfl (by assumption)
      apply a_move
      (conv => (lhs; whnf))
      apply r_op
      exact rfl
      exact want_t rfl rfl rfl (by assumption)
      apply g_indexAddr
      exact a_indexAddr rfl rfl (by decide) (by omega) (by exact get_map (by assumption))
      apply r_op
      exact rfl
      exact want_t rfl rfl rfl (by assumption)
      apply g_fieldAddr
      exact a_fieldAddr1 rfl (by decide) rfl
      apply r_op
      exact rfl
      exact want_t rfl rfl rfl (by assumption)
      apply g_load
      exact a_load1 rfl rfl
      apply r_op
      exact rfl
      exact want_t rfl rfl rfl (by assumption)
      apply g_convert
      exact a_bytesStr rfl
      apply r_op
      exact rfl
      exact want_t rfl rfl rfl (by assumption)
      apply g_binOp
      exact a_binS rfl rfl rfl rfl
      apply r_op
      exact rfl
      exact rfl
      apply g_pick
      apply a_pickF rfl (by assumption)
      (conv => (lhs; whnf))
      with_reducible refine runs_done ?_
      refine W.cond rfl (fun hc => ?_) (fun hc => ?_)
      refine W.seq ?_
      refine W.regionL (by decide +kernel) rfl ?_
      apply r_op
      exact rfl
      exact rfl
      apply a_assign
      (conv => (lhs; whnf))
      with_reducible refine runs_done ?_
      refine W.ret ?_
      show Q Exit.ret _ _
      refine post_q hQ (by apply res_tmp; exact rfl; exact res_nil) (.inl rfl) (by exact .refl _) ?_
      (conv => (lhs; whnf))
      rotate_left
      refine W.skip ?_
      show W _ _ _ _ _ _ _
      refine W.regionL (by decide +kernel) rfl ?_
      apply r_op
      exact rfl
      exact rfl
      apply a_move
      (conv => (lhs; whnf))
      apply r_op
      exact rfl
      exact rfl
      apply g_binOp
      exact a_add64 rfl rfl (by omega)
      apply r_op
      exact rfl
      exact rfl
      apply a_assign
      (conv => (lhs; whnf))
      with_reducible refine runs_done ?_
      rotate_left
      · have : ¬ a = b := fun e => by subst e; rw [ga] at gb; cases gb; simp at hg
        simp [this]
      · have : ¬ a = b := fun e => by subst e; rw [ga] at gb; cases gb; simp at hc
        simp [this]
      · have h1 : x.key = y.key := by simpa using hg
        have h2 : x.val = y.val := by simpa using hc
        exact ⟨a.length - (i + 1), by omega, i + 1, by omega, rfl, rfl, ht.2 (row_ext h1 h2), by exact Has.by (by repeat (first | exact trivial | refine ⟨by first | trivial | exact Weak.refl _ | exact Weak.tok _ _ _ | exact Weak.of_eq (congrArg (AV.int _) (by omega)) | exact Weak.nils _ _ (.inr rfl), ?_⟩))⟩
    · have hge : i = a.length := by simp at hc; omega
      refine W.exit ?_
      show W _ _ _ _ _ _ _
      refine W.seq ?_
      refine W.regionL (by decide +kernel) rfl ?_
      apply r_op
      exact rfl
      exact rfl
      apply a_assign
      (conv => (lhs; whnf))
      with_reducible refine runs_done ?_
      refine W.ret ?_
      show Q Exit.ret _ _
      refine post_q hQ (by apply res_tmp; exact rfl; exact res_nil) (.inl rfl) (by exact .refl _) ?_
      (conv => (lhs; whnf))
      have : a = b := by rw [hge, List.take_length, hlen, List.take_length] at htk; exact htk
      simp [this]
end Go.Proofs.YtkbmkhhcppfcnaaDoor
end
section
set_option linter.unusedVariables false
set_option linter.unusedSimpArgs false
set_option maxRecDepth 100000
set_option maxHeartbeats 1000000
namespace Go.Proofs.YtkbmkhhcppfcnaaDoor
open Go.Al Go.RowKit
theorem sub48 {c : UInt8} (h : 48 ≤ c.toNat ∧ c.toNat ≤ 57) : IntKind.i64.wrap (((Al.byteOf ((c.toNat : Int) - 48)).toNat : Nat) : Int) = ((c.toNat - 48 : Nat) : Int) := by
  have e : ((c.toNat : Int) - 48) = ((c.toNat - 48 : Nat) : Int) := by omega
  rw [e, byteOf_toNat _ (by omega), IntWalk.i64_in _ (by omega)]
theorem parts_any (w0 : World) (l : List UInt8) (c0 t : UInt8) (id seq : Nat) (hl : l.length = 22) (g0 : l[(0 : Int).toNat]? = some c0) (g1 : l[(1 : Int).toNat]? = some t) (hc0 : 48 ≤ c0.toNat ∧ c0.toNat ≤ 57) (ht : 97 ≤ t.toNat ∧ t.toNat ≤ 122)
    (hA1 : CallP Tryd.prog w0 52 [.str ((l.take (12 : Int).toNat).drop (2 : Int).toNat)] (.tup [.int .i64 id, .nilifc])) (hA2 : CallP Tryd.prog w0 52 [.str ((l.take ((l.length : Nat) : Int).toNat).drop (12 : Int).toNat)] (.tup [.int .i64 seq, .nilifc]))
    (hK : CallP Tryd.prog w0 35 [.int .i64 (IntKind.i64.wrap (((Al.byteOf ((c0.toNat : Int) - 48)).toNat : Nat) : Int)), .int .u8 t.toNat, .int .i64 id, .int .i64 seq] (.str l)) :
    CallP Tryd.prog w0 44 [.str l] (.tup [.int .i64 (c0.toNat - 48 : Nat), .int .u8 t.toNat, .int .i64 id, .int .i64 seq, .bool true]) := by
  refine CallP.start Tryd.func44 rfl Tryd.ntmps44 (by simp) fun σ Q hQ => ?_
  have d0 : (!decide (((l.length : Nat) : Int) = 22)) = false := by simp [hl]
  have d1 : decide ((c0.toNat : Int) < 48) = false := decide_eq_false (by omega)
  have d2 : decide ((57 : Int) < (c0.toNat : Int)) = false := decide_eq_false (by omega)
  have d3 : decide ((t.toNat : Int) < 97) = false := decide_eq_false (by omega)
  have d4 : decide ((122 : Int) < (t.toNat : Int)) = false := decide_eq_false (by omega)
  have d5 : (!decide (l = l)) = false := by simp
  refine W.seq ?_
  refine W.regionL (by decide +kernel) rfl ?_
  apply r_op
  exact rfl
  exact rfl
  apply a_assign
  (conv => (lhs; whnf))
  apply r_op
  exact rfl
  exact rfl
  apply a_assign
  (conv => (lhs; whnf))
  apply r_op
  exact rfl
  exact rfl
  apply a_assign
  (conv => (lhs; whnf))
  apply r_op
  exact rfl
  exact rfl
  apply a_assign
  (conv => (lhs; whnf))
  apply r_op
  exact rfl
  exact rfl
  apply a_assign
  (conv => (lhs; whnf))
  with_reducible refine runs_done ?_
  refine W.seq ?_
  refine W.seq ?_
  refine W.regionL (by decide +kernel) rfl ?_
  apply r_op
  exact rfl
  exact rfl
  apply a_move
  (conv => (lhs; whnf))
  apply r_op
  exact rfl
  exact rfl
  apply g_call
  exact a_len_str rfl
  apply r_op
  exact rfl
  exact rfl
  apply g_binOp
  exact a_binI rfl rfl rfl
  apply r_op
  exact rfl
  exact rfl
  apply a_move
  (conv => (lhs; whnf))
  apply r_op
  exact rfl
  exact want_t rfl rfl rfl (by assumption)
  apply a_move
  (conv => (lhs; whnf))
  apply r_op
  exact rfl
  exact want_t rfl rfl rfl (by assumption)
  apply g_index
  exact a_indexS rfl rfl (by omega) (by assumption)
  apply r_op
  exact rfl
  exact want_t rfl rfl rfl (by assumption)
  apply g_binOp
  exact a_binI rfl rfl rfl
  apply r_op
  exact rfl
  exact rfl
  apply g_pick
  apply a_pickF rfl (by assumption)
  (conv => (lhs; whnf))
  apply r_op
  exact rfl
  exact rfl
  apply a_move
  (conv => (lhs; whnf))
  apply r_op
  exact rfl
  exact want_t rfl rfl rfl (by assumption)
  apply a_move
  (conv => (lhs; whnf))
  apply r_op
  exact rfl
  exact want_t rfl rfl rfl (by assumption)
  apply g_index
  exact a_indexS rfl rfl (by omega) (by assumption)
  apply r_op
  exact rfl
  exact want_t rfl rfl rfl (by assumption)
  apply g_binOp
  exact a_binI rfl rfl rfl
  apply r_op
  exact rfl
  exact rfl
  apply g_pick
  apply a_pickF rfl (by assumption)
  (conv => (lhs; whnf))
  apply r_op
  exact rfl
  exact rfl
  apply a_move
  (conv => (lhs; whnf))
  apply r_op
  exact rfl
  exact want_t rfl rfl rfl (by assumption)
  apply a_move
  (conv => (lhs; whnf))
  apply r_op
  exact rfl
  exact want_t rfl rfl rfl (by assumption)
  apply g_index
  exact a_indexS rfl rfl (by omega) (by assumption)
  apply r_op
  exact rfl
  exact want_t rfl rfl rfl (by assumption)
  apply g_binOp
  exact a_binI rfl rfl rfl
  apply r_op
  exact rfl
  exact rfl
  apply g_pick
  apply a_pickF rfl (by assumption)
  (conv => (lhs; whnf))
  apply r_op
  exact rfl
  exact rfl
  apply a_move
  (conv => (lhs; whnf))
  apply r_op
  exact rfl
  exact want_t rfl rfl rfl (by assumption)
  apply a_move
  (conv => (lhs; whnf))
  apply r_op
  exact rfl
  exact want_t rfl rfl rfl (by assumption)
  apply g_index
  exact a_indexS rfl rfl (by omega) (by assumption)
  apply r_op
  exact rfl
  exact want_t rfl rfl rfl (by assumption)
  apply g_binOp
  exact a_binI rfl rfl rfl
  apply r_op
  exact rfl
  exact rfl
  apply g_pick
  apply a_pickF rfl (by assumption)
  (conv => (lhs; whnf))
  with_reducible refine runs_done ?_
  refine W.condF rfl (by assumption) ?_
  refine W.skip ?_
  show W _ _ _ _ _ _ _
  refine W.seq ?_
  refine W.regionL (by decide +kernel) rfl ?_
  apply r_op
  exact rfl
  exact rfl
  apply a_move
  (conv => (lhs; whnf))
  apply r_op
  exact rfl
  exact rfl
  apply g_index
  exact a_indexS rfl rfl (by omega) (by assumption)
  apply r_op
  exact rfl
  exact rfl
  apply g_binOp
  exact a_u8sub rfl rfl
  apply r_op
  exact rfl
  exact rfl
  apply g_convert
  exact a_convI rfl
  apply r_op
  exact rfl
  exact rfl
  apply a_assign
  (conv => (lhs; whnf))
  with_reducible refine runs_done ?_
  refine W.seq ?_
  refine W.regionL (by decide +kernel) rfl ?_
  apply r_op
  exact rfl
  exact rfl
  apply a_move
  (conv => (lhs; whnf))
  apply r_op
  exact rfl
  exact rfl
  apply g_slice
  exact a_sliceS rfl rfl rfl (by omega)
  apply r_callP
  exact rfl
  exact rfl
  exact rfl
  exact rfl
  exact rfl
  infer_instance
  exact hA1
  apply r_op
  exact rfl
  exact rfl
  apply a_move
  (conv => (lhs; whnf))
  apply r_op
  exact rfl
  exact rfl
  apply g_extract
  exact a_extract rfl rfl
  apply r_op
  exact rfl
  exact rfl
  apply g_extract
  exact a_extract rfl rfl
  apply r_op
  exact rfl
  exact rfl
  apply a_assign
  (conv => (lhs; whnf))
  apply r_op
  exact rfl
  exact rfl
  apply a_assign
  (conv => (lhs; whnf))
  with_reducible refine runs_done ?_
  refine W.seq ?_
  refine W.regionL (by decide +kernel) rfl ?_
  apply r_op
  exact rfl
  exact rfl
  apply a_move
  (conv => (lhs; whnf))
  apply r_op
  exact rfl
  exact rfl
  apply g_slice
  exact a_sliceS rfl rfl rfl (by omega)
  apply r_callP
  exact rfl
  exact rfl
  exact rfl
  exact rfl
  exact rfl
  infer_instance
  exact hA2
  apply r_op
  exact rfl
  exact rfl
  apply a_move
  (conv => (lhs; whnf))
  apply r_op
  exact rfl
  exact rfl
  apply g_extract
  exact a_extract rfl rfl
  apply r_op
  exact rfl
  exact rfl
  apply g_extract
  exact a_extract rfl rfl
  apply r_op
  exact rfl
  exact rfl
  apply a_assign
  (conv => (lhs; whnf))
  apply r_op
  exact rfl
  exact rfl
  apply a_assign
  (conv => (lhs; whnf))
  with_reducible refine runs_done ?_
  refine W.seq ?_
  refine W.seq ?_
  refine W.regionL (by decide +kernel) rfl ?_
  apply r_op
  exact rfl
  exact rfl
  apply a_move
  (conv => (lhs; whnf))
  apply r_op
  exact rfl
  exact rfl
  apply g_binOp
  exact a_nilI rfl rfl (by exact .inl rfl) rfl rfl rfl
  apply r_op
  exact rfl
  exact rfl
  apply a_move
  (conv => (lhs; whnf))
  apply r_op
  exact rfl
  exact rfl
  apply a_move
  (conv => (lhs; whnf))
  apply r_op
  exact rfl
  exact rfl
  apply g_binOp
  exact a_nilI rfl rfl (by exact .inl rfl) rfl rfl rfl
  apply r_op
  exact rfl
  exact rfl
  apply g_pick
  apply a_pickF rfl (by exact rfl)
  (conv => (lhs; whnf))
  apply r_op
  exact rfl
  exact rfl
  apply a_move
  (conv => (lhs; whnf))
  apply r_op
  exact rfl
  exact rfl
  apply a_move
  (conv => (lhs; whnf))
  apply r_op
  exact rfl
  exact rfl
  apply a_move
  (conv => (lhs; whnf))
  apply r_op
  exact rfl
  exact rfl
  apply g_index
  exact a_indexS rfl rfl (by omega) (by assumption)
  apply r_op
  exact rfl
  exact rfl
  apply a_move
  (conv => (lhs; whnf))
  apply r_op
  exact rfl
  exact rfl
  apply a_move
  (conv => (lhs; whnf))
  apply r_callP
  exact rfl
  exact rfl
  exact rfl
  exact rfl
  exact rfl
  infer_instance
  exact hK
  apply r_op
  exact rfl
  exact rfl
  apply a_move
  (conv => (lhs; whnf))
  apply r_op
  exact rfl
  exact rfl
  apply g_binOp
  exact a_binS rfl rfl rfl rfl
  apply r_op
  exact rfl
  exact rfl
  apply g_pick
  apply a_pickF rfl (by exact rfl)
  (conv => (lhs; whnf))
  with_reducible refine runs_done ?_
  refine W.condF rfl (by assumption) ?_
  refine W.skip ?_
  show W _ _ _ _ _ _ _
  refine W.seq ?_
  refine W.regionDK 1 [] Ty.mixed (by decide +kernel) (by decide +kernel) rfl ?_
  apply r_op
  exact rfl
  exact rfl
  apply a_move
  (conv => (lhs; whnf))
  apply r_op
  exact rfl
  exact rfl
  apply a_move
  (conv => (lhs; whnf))
  apply r_op
  exact rfl
  exact rfl
  apply g_index
  exact a_indexS rfl rfl (by omega) (by assumption)
  apply r_op
  exact rfl
  exact rfl
  apply a_move
  (conv => (lhs; whnf))
  apply r_op
  exact rfl
  exact rfl
  apply a_move
  (conv => (lhs; whnf))
  apply r_op
  exact rfl
  exact rfl
  apply a_assign
  (conv => (lhs; whnf))
  apply r_op
  exact rfl
  exact rfl
  apply a_assign
  (conv => (lhs; whnf))
  apply r_op
  exact rfl
  exact rfl
  apply a_assign
  (conv => (lhs; whnf))
  apply r_op
  exact rfl
  exact rfl
  apply a_assign
  (conv => (lhs; whnf))
  apply r_op
  exact rfl
  exact rfl
  apply a_assign
  (conv => (lhs; whnf))
  with_reducible refine runs_done ?_
  refine W.ret ?_
  show Q Exit.ret _ _
  refine post_q hQ (by apply res_tmp; exact rfl; apply res_tmp; exact rfl; apply res_tmp; exact rfl; apply res_tmp; exact rfl; apply res_tmp; exact rfl; exact res_nil) (.inl rfl) (by exact .refl _) ?_
  (conv => (lhs; whnf))
  rw [← sub48 hc0]; rfl
theorem alike_any (w0 : World) (x y : Row) : CallP Tryd.prog w0 48 [eRow x, eRow y] (.bool (decide (x = y))) := by
  refine CallP.start Tryd.func48 rfl Tryd.ntmps48 (by simp) fun σ Q hQ => ?_
  refine W.seq ?_
  refine W.regionL (by decide +kernel) rfl ?_
  apply r_boxF
  exact rfl
  exact rfl
  exact rfl
  (conv => (lhs; whnf))
  exact rfl
  apply r_boxF
  exact rfl
  exact rfl
  exact rfl
  (conv => (lhs; whnf))
  exact rfl
  apply r_op
  exact rfl
  exact rfl
  apply a_assign
  (conv => (lhs; whnf))
  with_reducible refine runs_done ?_
  refine W.seq ?_
  refine W.regionL (by decide +kernel) rfl ?_
  apply r_op
  exact rfl
  exact rfl
  apply g_fieldAddr
  exact a_fieldAddr1 rfl (by decide) rfl
  apply r_op
  exact rfl
  exact rfl
  apply g_load
  exact a_load1 rfl rfl
  apply r_op
  exact rfl
  exact rfl
  apply g_fieldAddr
  exact a_fieldAddr1 rfl (by decide) rfl
  apply r_op
  exact rfl
  exact rfl
  apply g_load
  exact a_load1 rfl rfl
  apply r_op
  exact rfl
  exact rfl
  apply g_binOp
  exact a_binS rfl rfl rfl rfl
  apply r_op
  exact rfl
  exact rfl
  apply a_move
  (conv => (lhs; whnf))
  refine q_split rfl rfl rfl (fun hg => ?_) (fun hg => ?_)
  apply r_op
  exact rfl
  exact want_t rfl rfl rfl (by assumption)
  apply g_fieldAddr
  exact a_fieldAddr1 rfl (by decide) rfl
  apply r_op
  exact rfl
  exact want_t rfl rfl rfl (by assumption)
  apply g_load
  exact a_load1 rfl rfl
  apply r_op
  exact rfl
  exact want_t rfl rfl rfl (by assumption)
  apply g_convert
  exact a_bytesStr rfl
  apply r_op
  exact rfl
  exact want_t rfl rfl rfl (by assumption)
  apply g_fieldAddr
  exact a_fieldAddr1 rfl (by decide) rfl
  apply r_op
  exact rfl
  exact want_t rfl rfl rfl (by assumption)
  apply g_load
  exact a_load1 rfl rfl
  apply r_op
  exact rfl
  exact want_t rfl rfl rfl (by assumption)
  apply g_convert
  exact a_bytesStr rfl
  apply r_op
  exact rfl
  exact want_t rfl rfl rfl (by assumption)
  apply g_binOp
  exact a_binS rfl rfl rfl rfl
  apply r_op
  exact rfl
  exact rfl
  apply g_pick
  apply a_pickT rfl (by assumption)
  (conv => (lhs; whnf))
  apply r_op
  exact rfl
  exact rfl
  apply a_assign
  (conv => (lhs; whnf))
  with_reducible refine runs_done ?_
  refine W.ret ?_
  show Q Exit.ret _ _
  refine post_q hQ (by apply res_tmp; exact rfl; exact res_nil) (.inl rfl) (by exact .refl _) ?_
  (conv => (lhs; whnf))
  rotate_left
  apply q_skip
  exact rfl
  exact want_f rfl rfl rfl (by assumption)
  apply q_skip
  exact rfl
  exact want_f rfl rfl rfl (by assumption)
  apply q_skip
  exact rfl
  exact want_f rfl rfl rfl (by assumption)
  apply q_skip
  exact rfl
  exact want_f rfl rfl rfl (by assumption)
  apply q_skip
  exact rfl
  exact want_f rfl rfl rfl (by assumption)
  apply q_skip
  exact rfl
  exact want_f rfl rfl rfl (by assumption)
  apply q_skip
  exact rfl
  exact want_f rfl rfl rfl (by assumption)
  apply r_op
  exact rfl
  exact rfl
  apply g_pick
  apply a_pickF rfl (by assumption)
  (conv => (lhs; whnf))
  apply r_op
  exact rfl
  exact rfl
  apply a_assign
  (conv => (lhs; whnf))
  with_reducible refine runs_done ?_
  refine W.ret ?_
  show Q Exit.ret _ _
  refine post_q hQ (by apply res_tmp; exact rfl; exact res_nil) (.inl rfl) (by exact .refl _) ?_
  (conv => (lhs; whnf))
  rotate_left
  · have h1 : x.key = y.key := by simpa using ‹decide (x.key = y.key) = true›
    have : (x.val = y.val) ↔ x = y := ⟨fun h => row_ext h1 h, fun h => by rw [h]⟩
    simp only [this]
  · have : ¬ x = y := fun e => by subst e; simp at *
    simp [this]
theorem eqRows_any (w0 : World) (a b : List Row) (ta tb : Tok) (ha : a.length ≤ 1000000000) : CallP Tryd.prog w0 49 [.slc 2 (a.map eRow) ta, .slc 2 (b.map eRow) tb, .fn (.func 48) [] []] (.bool (decide (a = b))) := by
  refine CallP.start Tryd.func49 rfl Tryd.ntmps49 (by simp) fun σ Q hQ => ?_
  refine W.seq ?_
  refine W.regionL (by decide +kernel) rfl ?_
  apply r_op
  exact rfl
  exact rfl
  apply a_assign
  (conv => (lhs; whnf))
  with_reducible refine runs_done ?_
  refine W.seq ?_
  refine W.seq ?_
  refine W.regionL (by decide +kernel) rfl ?_
  apply r_op
  exact rfl
  exact rfl
  apply a_move
  (conv => (lhs; whnf))
  apply r_op
  exact rfl
  exact rfl
  apply g_call
  exact a_len_slc rfl
  apply r_op
  exact rfl
  exact rfl
  apply a_move
  (conv => (lhs; whnf))
  apply r_op
  exact rfl
  exact rfl
  apply g_call
  exact a_len_slc rfl
  apply r_op
  exact rfl
  exact rfl
  apply g_binOp
  exact a_binI rfl rfl rfl
  with_reducible refine runs_done ?_
  refine W.cond rfl (fun hc => ?_) (fun hc => ?_)
  refine W.seq ?_
  refine W.regionL (by decide +kernel) rfl ?_
  apply r_op
  exact rfl
  exact rfl
  apply a_assign
  (conv => (lhs; whnf))
  with_reducible refine runs_done ?_
  refine W.ret ?_
  show Q Exit.ret _ _
  refine post_q hQ (by apply res_tmp; exact rfl; exact res_nil) (.inl rfl) (by exact .refl _) ?_
  (conv => (lhs; whnf))
  rotate_left
  refine W.skip ?_
  show W _ _ _ _ _ _ _
  refine W.seq ?_
  refine W.seq ?_
  refine W.regionL (by decide +kernel) rfl ?_
  apply r_op
  exact rfl
  exact rfl
  apply a_move
  (conv => (lhs; whnf))
  apply r_op
  exact rfl
  exact rfl
  apply g_call
  exact a_len_slc rfl
  apply r_op
  exact rfl
  exact rfl
  apply a_move
  (conv => (lhs; whnf))
  with_reducible refine runs_done ?_
  refine W.block ?_
  rotate_left
  · have : ¬ a = b := by rintro rfl; simp at hc
    simp [this]
  · have hlen : a.length = b.length := by simp at hc; omega
    clear hc
    refine W.loop (fun k E s => ∃ i : Nat, i ≤ a.length ∧ k = a.length - i ∧ St.Le σ s ∧ a.take i = b.take i ∧ Has [(1, .slc 2 (b.map eRow) .no), (2, .fn (.func 48) [] []), (15, .slc 2 (a.map eRow) .no), (16, .int .i64 a.length), (17, .int .i64 i)] E) a.length ⟨0, Nat.zero_le _, rfl, .refl _, by simp, ?_⟩ ?_
    · rw [List.length_map]
      exact Has.by (by repeat (first | exact trivial | refine ⟨by first | trivial | exact Weak.refl _ | exact Weak.tok _ _ _ | exact Weak.of_eq (congrArg (AV.int _) (by omega)) | exact Weak.nils _ _ (.inr rfl), ?_⟩))
    rintro k E s ⟨i, hi, rfl, hle, htk, hE⟩
    refine W.weaken (fun t => .refl _) hle ?_
    refine W.has hE ?_
    clear hE hle
    refine W.seq ?_
    refine W.regionL (by decide +kernel) rfl ?_
    apply r_op
    exact rfl
    exact rfl
    apply g_binOp
    exact a_binI rfl rfl rfl
    with_reducible refine runs_done ?_
    refine W.seq ?_
    refine W.cond rfl (fun hc => ?_) (fun hc => ?_)
    · have hlt : i < a.length := by simp at hc; omega
      have ga : a[i]? = some a[i] := by simp [hlt]
      have gb : b[i]? = some (b[i]'(by omega)) := List.getElem?_eq_getElem (by omega)
      have ht := take_succ_iff hlt (show i < b.length by omega) htk
      generalize a[i] = x at ga ht
      generalize b[i]'(by omega) = y at gb ht
      clear hc
      refine W.skip ?_
      show W _ _ _ _ _ _ _
      refine W.seq ?_
      refine W.block ?_
      refine W.seq ?_
      refine W.regionL (by decide +kernel) rfl ?_
      apply r_op
      exact rfl
      exact rfl
      apply a_move
      (conv => (lhs; whnf))
      apply r_op
      exact rfl
      exact rfl
      apply g_indexAddr
      exact a_indexAddr rfl rfl (by decide) (by omega) (by exact get_map (by assumption))
      apply r_op
      exact rfl
      exact rfl
      apply g_load
      exact a_loadA rfl (by rfl) rfl
      apply r_alloc
      exact rfl
      exact rfl
      decide
      exact rfl
      (conv => (lhs; whnf))
      intro b1 hb1
      apply r_op
      exact rfl
      exact rfl
      apply a_assign
      (conv => (lhs; whnf))
      apply r_store
      exact rfl
      exact rfl
      exact rfl
      decide
      infer_instance
      exact rfl
      exact setBox_same
      (conv => (lhs; whnf))
      exact rfl
      (conv => (lhs; whnf))
      exact rfl
      exact of_decide_eq_true rfl
      exact setL_whole rfl
      with_reducible refine runs_done ?_
      refine W.seq ?_
      refine W.regionL (by decide +kernel) rfl ?_
      apply r_op
      exact rfl
      exact rfl
      apply a_move
      (conv => (lhs; whnf))
      apply r_op
      exact rfl
      exact rfl
      apply a_move
      (conv => (lhs; whnf))
      apply r_op
      exact rfl
      exact rfl
      apply g_indexAddr
      exact a_indexAddr rfl rfl (by decide) (by omega) (by exact get_map (by assumption))
      apply r_op
      exact rfl
      exact rfl
      apply g_load
      exact a_loadA rfl (by rfl) rfl
      apply r_alloc
      exact rfl
      exact rfl
      decide
      exact rfl
      (conv => (lhs; whnf))
      intro b1 hb1
      apply r_store
      exact rfl
      exact rfl
      exact rfl
      decide
      infer_instance
      exact rfl
      exact setBox_same
      (conv => (lhs; whnf))
      exact rfl
      (conv => (lhs; whnf))
      exact rfl
      exact of_decide_eq_true rfl
      exact setL_whole rfl
      with_reducible refine runs_done ?_
      refine W.seq ?_
      refine W.regionL (by decide +kernel) rfl ?_
      apply r_op
      exact rfl
      exact rfl
      apply a_move
      (conv => (lhs; whnf))
      apply r_load
      exact rfl
      exact rfl
      exact rfl
      decide
      exact rfl
      apply hb_ne (by exact ne_none' (by assumption))
      apply hb_ne (by exact ne_none' (by assumption))
      exact setBox_same
      exact aLoadA rfl (by rfl) rfl
      apply r_load
      exact rfl
      exact rfl
      exact rfl
      decide
      exact rfl
      exact setBox_same
      exact aLoadA rfl (by rfl) rfl
      apply r_callP
      exact rfl
      exact rfl
      exact rfl
      exact rfl
      exact rfl
      infer_instance
      exact alike_any w0 _ _
      apply r_op
      exact rfl
      exact rfl
      apply g_unOp
      exact a_not rfl
      with_reducible refine runs_done ?_
      refine W.cond rfl (fun hc => ?_) (fun hc => ?_)
      refine W.seq ?_
      refine W.regionL (by decide +kernel) rfl ?_
      apply r_op
      exact rfl
      exact rfl
      apply a_assign
      (conv => (lhs; whnf))
      with_reducible refine runs_done ?_
      refine W.ret ?_
      show Q Exit.ret _ _
      refine post_q hQ (by apply res_tmp; exact rfl; exact res_nil) (.inl rfl) (by refine le_setBox ?_ (by exact none_in (none_in (by assumption))); refine le_setBox ?_ (by exact none_in (none_in (by assumption))); refine le_setBox ?_ (by assumption); refine le_setBox ?_ (by assumption); exact .refl _) ?_
      (conv => (lhs; whnf))
      rotate_left
      refine W.skip ?_
      show W _ _ _ _ _ _ _
      refine W.regionL (by decide +kernel) rfl ?_
      apply r_op
      exact rfl
      exact rfl
      apply g_binOp
      exact a_add64 rfl rfl (by omega)
      apply r_op
      exact rfl
      exact rfl
      apply a_move
      (conv => (lhs; whnf))
      with_reducible refine runs_done ?_
      rotate_left
      · have : ¬ a = b := fun e => by subst e; rw [ga] at gb; cases gb; simp at hc
        simp [this]
      · have hxy : x = y := by simpa using hc
        exact ⟨a.length - (i + 1), by omega, i + 1, by omega, rfl, by repeat (first | assumption | exact .refl _ | refine le_setBox ?_ (by first | assumption | exact none_in (by assumption) | exact none_in (none_in (by assumption)) | exact none_in (none_in (none_in (by assumption))) | fail) | exact Moves.le (by assumption) | refine .trans ?_ (Moves.le (by assumption))), ht.2 hxy, by exact Has.by (by repeat (first | exact trivial | refine ⟨by first | trivial | exact Weak.refl _ | exact Weak.tok _ _ _ | exact Weak.of_eq (congrArg (AV.int _) (by omega)) | exact Weak.nils _ _ (.inr rfl), ?_⟩))⟩
    · have hge : i = a.length := by simp at hc; omega
      refine W.exit ?_
      show W _ _ _ _ _ _ _
      refine W.seq ?_
      refine W.regionL (by decide +kernel) rfl ?_
      apply r_op
      exact rfl
      exact rfl
      apply a_assign
      (conv => (lhs; whnf))
      with_reducible refine runs_done ?_
      refine W.ret ?_
      show Q Exit.ret _ _
      refine post_q hQ (by apply res_tmp; exact rfl; exact res_nil) (.inl rfl) (by exact .refl _) ?_
      (conv => (lhs; whnf))
      have : a = b := by rw [hge, List.take_length, hlen, List.take_length] at htk; exact htk
      simp [this]
end Go.Proofs.YtkbmkhhcppfcnaaDoor
end
section
set_option linter.unusedVariables false
set_option linter.unusedSimpArgs false
set_option maxRecDepth 100000
set_option maxHeartbeats 1000000
namespace Go.Proofs.YtkbmkhhcppfcnaaDoor
open Go.Al Go.RowKit
theorem cl_nat {n : Nat} (h : n ≤ 9999999999) : cl (n : Int) = n := by unfold cl; omega
theorem parts_key (w0 : World) (hL : Laid w0) (v : Nat) (hv : v < 10) (t : UInt8) (ht : 97 ≤ t.toNat ∧ t.toNat ≤ 122) (id seq : Nat) (hid : id ≤ 9999999999) (hseq : seq ≤ 9999999999) :
    CallP Tryd.prog w0 44 [.str (rkey v t id seq)] (.tup [.int .i64 v, .int .u8 t.toNat, .int .i64 id, .int .i64 seq, .bool true]) := by
  have hk := rkey_length v t id seq
  have hA := dN_length 10 (cl id)
  have hB := dN_length 10 (cl seq)
  have i1 := atoi_dN 9 (cl id) (cl_lt _)
  have i2 := atoi_dN 9 (cl seq) (cl_lt _)
  have hc : (UInt8.ofNat (48 + v)).toNat = 48 + v := by simp; omega
  have hK := keyS_any w0 hL v hv t id seq
  have hbyte : IntKind.i64.wrap (((Al.byteOf (((UInt8.ofNat (48 + v)).toNat : Int) - 48)).toNat : Nat) : Int) = ((v : Nat) : Int) := by
    rw [sub48 (by omega), hc]; congr 1; omega
  have hv' : (UInt8.ofNat (48 + v)).toNat - 48 = v := by omega
  have e1 : ((rkey v t id seq).take (12 : Int).toNat).drop (2 : Int).toNat = dN 10 (cl id) := by
    show ((dN 10 (cl id)) ++ (dN 10 (cl seq))).take 10 = _
    rw [List.take_append_of_le_length (by omega), List.take_of_length_le (by omega)]
  have e2 : ((rkey v t id seq).take (((rkey v t id seq).length : Nat) : Int).toNat).drop (12 : Int).toNat = dN 10 (cl seq) := by
    rw [Int.toNat_natCast, List.take_length]
    show ((dN 10 (cl id)) ++ (dN 10 (cl seq))).drop 10 = _
    rw [List.drop_append_of_le_length (by omega), List.drop_of_length_le (by omega)]; rfl
  have := parts_any w0 (rkey v t id seq) (UInt8.ofNat (48 + v)) t id seq hk rfl rfl (by omega) ht (by rw [e1]; have := atoi_any w0 hL (dN 10 (cl id)) (cl id : Nat) (by omega) i1; rwa [cl_nat hid] at this ⊢) (by rw [e2]; have := atoi_any w0 hL (dN 10 (cl seq)) (cl seq : Nat) (by omega) i2; rwa [cl_nat hseq] at this ⊢) (by rw [hbyte]; exact hK)
  rwa [hv'] at this
def V0 : List UInt8 := [1, 110, 1, 35, 0, 1, 1, 0, 0]
def x0 : Sub := ⟨1, [110], [35], [], 1, 1, 0, [], [], []⟩
def z0 : Sub := ⟨0, [], [], [], 0, 0, 0, [], [], []⟩
def row0 : Row := ⟨rkey 3 115 1 0, V0⟩
theorem num1 : num 1 = [1] := by unfold num; rw [show clampN 1 = 1 from rfl, numB_small (by decide)]; rfl
theorem num0 : num 0 = [0] := by unfold num; rw [show clampN 0 = 0 from rfl, numB_small (by decide)]; rfl
theorem enc_x0 : enc3 x0 = [row0] := by
  have : subB x0 = V0 := by simp [subB, x0, txt, num1, num0, V0]
  simp [enc3, x0] at this ⊢
  rw [this]; rfl
theorem fits_x0 : Fits x0 := ⟨by decide, by decide, by decide, by decide, by decide, by decide, by simp [x0]⟩
theorem fits_z0 : Fits z0 := ⟨by decide, by decide, by decide, by decide, by decide, by decide, by simp [z0]⟩
def xA : AV := .agg [.int .i64 1, .str [110], .str [35], .str [], .int .i64 1, .int .i64 1, .int .i64 0, .nils, .nils, .str []]
def zA : AV := .agg [.int .i64 0, .str [], .str [], .str [], .int .i64 0, .int .i64 0, .int .i64 0, .nils, .nils, .str []]
theorem weak_x0 : Weak (eSub x0) xA := .agg (.cons (.refl _) (.cons (.refl _) (.cons (.refl _) (.cons (.refl _) (.cons (.refl _) (.cons (.refl _) (.cons (.refl _) (.cons (.nils _ _ (.inl rfl)) (.cons (.nils _ _ (.inl rfl)) (.cons (.refl _) .nil)))))))))) (by decide)
theorem weak_z0 : Weak (eSub z0) zA := .agg (.cons (.refl _) (.cons (.refl _) (.cons (.refl _) (.cons (.refl _) (.cons (.refl _) (.cons (.refl _) (.cons (.refl _) (.cons (.nils _ _ (.inl rfl)) (.cons (.nils _ _ (.inl rfl)) (.cons (.refl _) .nil)))))))))) (by decide)
theorem enc_xA (w0 : World) (hL : Laid w0) : CallP Tryd.prog w0 16 [xA] (.slc 2 [eRow row0] .no) := fun σ => by
  have := (encW_room w0 hL x0 fits_x0 σ).room
  rw [enc_x0] at this
  exact CallW.weak1 [] [] weak_x0 this
theorem enc_zA (w0 : World) (hL : Laid w0) : CallP Tryd.prog w0 16 [zA] (.slc 2 ((enc3 z0).map eRow) .no) := fun σ =>
  CallW.weak1 [] [] weak_z0 (encW_room w0 hL z0 fits_z0 σ).room
theorem rt (w0 : World) {b : Nat} {σ : St} (a a' : Nat) (s : List UInt8) (ha : a ≤ 10) (h : rText V0 a none 30 = (s, a', none)) (hb : σ.box b = some (rd V0 a none)) : CallW Tryd.prog w0 47 [.ptr b 0, .int .i64 30] σ (fun r s' => r = .str s ∧ s' = σ.setBox b (rd V0 a' none)) := by
  have := rtext_any w0 V0 a 30 none b σ (by decide) (by omega) (by decide) hb
  rw [h] at this
  exact this
theorem rn (w0 : World) {b : Nat} {σ : St} (a a' n : Nat) (ha : a ≤ 10) (h : rNum V0 a none = (n, a', none)) (hb : σ.box b = some (rd V0 a none)) : CallW Tryd.prog w0 45 [.ptr b 0] σ (fun r s' => r = .int .i64 n ∧ s' = σ.setBox b (rd V0 a' none)) := by
  have := rnum_any w0 V0 a none b σ (by decide) (by omega) hb
  rw [h] at this
  exact this
end Go.Proofs.YtkbmkhhcppfcnaaDoor
end
section
set_option linter.unusedVariables false
set_option linter.unusedSimpArgs false
set_option maxRecDepth 100000
set_option maxHeartbeats 2000000
namespace Go.Proofs.YtkbmkhhcppfcnaaDoor
open Go.Al Go.RowKit
def z27 : List AV := [.int .i64 0, .str [], .str [], .str [], .int .i64 0, .int .i64 0, .int .i64 0, .nils, .nils, .str []]
def x27 : List AV := [.int .i64 1, .str [110], .str [35], .str [], .int .i64 1, .int .i64 1, .int .i64 0, .nils, .nils, .str []]
theorem dec_known (w0 : World) (hL : Laid w0) : CallP Tryd.prog w0 18 [.slc 2 [eRow row0] .no] (.tup [xA, .int .u16 0]) := by
  refine CallP.start Tryd.func18 rfl Tryd.ntmps18 (by simp) fun σ Q hQ => ?_
  have hp := parts_key w0 hL 3 (by decide) 115 (by decide) 1 0 (by decide) (by decide)
  have hen := enc_xA w0 hL
  have heq := eqRows_any w0 [row0] [row0] .no .no (by decide)
  rw [show decide ([row0] = [row0]) = true by simp] at heq
  have t1 : rText V0 0 none 30 = ([110], 2, none) := by decide +kernel
  have t2 : rText V0 2 none 30 = ([35], 4, none) := by decide +kernel
  have t3 : rText V0 4 none 30 = ([], 5, none) := by decide +kernel
  have n1 : rNum V0 5 none = (1, 6, none) := by decide +kernel
  have n2 : rNum V0 6 none = (1, 7, none) := by decide +kernel
  have n3 : rNum V0 7 none = (0, 8, none) := by decide +kernel
  have t4 : rText V0 8 none 30 = ([], 9, none) := by decide +kernel
  refine W.seq ?_
  refine W.regionL (by decide +kernel) rfl ?_
  apply r_alloc
  exact rfl
  exact rfl
  decide
  exact rfl
  (conv => (lhs; whnf))
  intro b1 hb1
  apply r_op
  exact rfl
  exact rfl
  apply a_assign
  (conv => (lhs; whnf))
  with_reducible refine runs_done ?_
  refine W.seq ?_
  refine W.regionL (by decide +kernel) rfl ?_
  apply r_alloc
  exact rfl
  exact rfl
  decide
  exact rfl
  (conv => (lhs; whnf))
  intro b1 hb1
  with_reducible refine runs_done ?_
  refine W.seq ?_
  refine W.regionL (by decide +kernel) rfl ?_
  apply r_op
  exact rfl
  exact rfl
  apply a_assign
  (conv => (lhs; whnf))
  with_reducible refine runs_done ?_
  refine W.seq ?_
  refine W.regionL (by decide +kernel) rfl ?_
  apply r_op
  exact rfl
  exact rfl
  apply a_assign
  (conv => (lhs; whnf))
  with_reducible refine runs_done ?_
  refine W.seq ?_
  refine W.seq ?_
  refine W.regionL (by decide +kernel) rfl ?_
  apply r_op
  exact rfl
  exact rfl
  apply a_move
  (conv => (lhs; whnf))
  apply r_op
  exact rfl
  exact rfl
  apply g_call
  exact a_len_slc rfl
  apply r_op
  exact rfl
  exact rfl
  apply a_move
  (conv => (lhs; whnf))
  with_reducible refine runs_done ?_
  refine W.block ?_
  rename_i b2 hb2
  have hne : b2 ≠ b1 := ne_none' hb1
  have hs4 : σ.box b1 = none := none_in hb1
  generalize b1 = b4 at hne hs4 hb1 ⊢
  refine W.loop (fun k E s => (k = 1 ∧ s = (σ.setBox b2 z27).setBox b4 z27 ∧ Has [(0, .slc 2 [eRow row0] .no), (2, .ptr b2 0), (3, .int .u16 0), (4, .ptr b4 0), (5, .nils), (6, .bool true), (20, .slc 2 [eRow row0] .no), (21, .int .i64 1), (22, .int .i64 0)] E) ∨ (k = 0 ∧ s.box b2 = some z27 ∧ s.box b4 = some x27 ∧ St.Le σ s ∧ Has [(0, .slc 2 [eRow row0] .no), (2, .ptr b2 0), (3, .int .u16 0), (4, .ptr b4 0), (5, .nils), (6, .bool true), (20, .slc 2 [eRow row0] .no), (21, .int .i64 1), (22, .int .i64 1)] E)) 1 (.inl ⟨rfl, rfl, by exact Has.by (by repeat (first | exact trivial | refine ⟨by first | trivial | exact Weak.refl _ | exact Weak.tok _ _ _ | exact Weak.of_eq (congrArg (AV.int _) (by omega)) | exact Weak.nils _ _ (.inr rfl), ?_⟩))⟩) ?_
  rintro k E s (⟨rfl, rfl, hE⟩ | ⟨rfl, h2, h4, hle, hE⟩)
  · refine W.has hE ?_
    clear hE
    unfold z27
    refine W.seq ?_
    refine W.regionL (by decide +kernel) rfl ?_
    apply r_op
    exact rfl
    exact rfl
    apply g_binOp
    exact a_binI rfl rfl rfl
    with_reducible refine runs_done ?_
    refine W.seq ?_
    refine W.condT rfl (by exact rfl) ?_
    refine W.skip ?_
    show W _ _ _ _ _ _ _
    refine W.seq ?_
    refine W.block ?_
    refine W.seq ?_
    refine W.regionL (by decide +kernel) rfl ?_
    apply r_op
    exact rfl
    exact rfl
    apply a_move
    (conv => (lhs; whnf))
    apply r_op
    exact rfl
    exact rfl
    apply g_indexAddr
    exact a_indexAddr rfl rfl (by decide) (by omega) (by exact rfl)
    apply r_op
    exact rfl
    exact rfl
    apply g_load
    exact a_loadA rfl (by rfl) rfl
    apply r_alloc
    exact rfl
    exact rfl
    decide
    exact rfl
    (conv => (lhs; whnf))
    intro b1 hb1
    apply r_op
    exact rfl
    exact rfl
    apply a_assign
    (conv => (lhs; whnf))
    apply r_store
    exact rfl
    exact rfl
    exact rfl
    decide
    infer_instance
    exact rfl
    exact setBox_same
    (conv => (lhs; whnf))
    exact rfl
    (conv => (lhs; whnf))
    exact rfl
    exact of_decide_eq_true rfl
    exact setL_whole rfl
    with_reducible refine runs_done ?_
    refine W.seq ?_
    refine W.regionL (by decide +kernel) rfl ?_
    apply r_op
    exact rfl
    exact rfl
    apply g_fieldAddr
    exact a_fieldAddrP rfl (by decide)
    apply r_load
    exact rfl
    exact rfl
    exact rfl
    decide
    exact rfl
    exact setBox_same
    exact aLoad1 rfl
    apply r_callP
    exact rfl
    exact rfl
    exact rfl
    exact rfl
    exact rfl
    infer_instance
    exact hp
    apply r_op
    exact rfl
    exact rfl
    apply a_move
    (conv => (lhs; whnf))
    apply r_op
    exact rfl
    exact rfl
    apply g_extract
    exact a_extract rfl rfl
    apply r_op
    exact rfl
    exact rfl
    apply g_extract
    exact a_extract rfl rfl
    apply r_op
    exact rfl
    exact rfl
    apply g_extract
    exact a_extract rfl rfl
    apply r_op
    exact rfl
    exact rfl
    apply g_extract
    exact a_extract rfl rfl
    apply r_op
    exact rfl
    exact rfl
    apply g_extract
    exact a_extract rfl rfl
    apply r_op
    exact rfl
    exact rfl
    apply a_assign
    (conv => (lhs; whnf))
    apply r_op
    exact rfl
    exact rfl
    apply a_assign
    (conv => (lhs; whnf))
    apply r_op
    exact rfl
    exact rfl
    apply a_assign
    (conv => (lhs; whnf))
    apply r_op
    exact rfl
    exact rfl
    apply a_assign
    (conv => (lhs; whnf))
    apply r_op
    exact rfl
    exact rfl
    apply a_assign
    (conv => (lhs; whnf))
    with_reducible refine runs_done ?_
    refine W.seq ?_
    refine W.regionL (by decide +kernel) rfl ?_
    apply r_op
    exact rfl
    exact rfl
    apply a_move
    (conv => (lhs; whnf))
    apply r_op
    exact rfl
    exact rfl
    apply g_fieldAddr
    exact a_fieldAddrP rfl (by decide)
    apply r_store
    exact rfl
    exact rfl
    exact rfl
    decide
    infer_instance
    exact rfl
    apply hb_ne (by exact ne_none' (by assumption))
    apply hb_ne (by exact ne_none' (by assumption))
    exact setBox_same
    (conv => (lhs; whnf))
    exact rfl
    (conv => (lhs; whnf))
    exact rfl
    exact of_decide_eq_true rfl
    exact rfl
    with_reducible refine runs_done ?_
    refine W.seq ?_
    refine W.regionL (by decide +kernel) rfl ?_
    apply r_op
    exact rfl
    exact rfl
    apply g_fieldAddr
    exact a_fieldAddrP rfl (by decide)
    apply r_load
    exact rfl
    exact rfl
    exact rfl
    decide
    exact rfl
    apply hb_ne (by exact ne_none (by assumption))
    exact setBox_same
    exact aLoad1 rfl
    apply r_op
    exact rfl
    exact rfl
    apply g_build
    apply a_build
    apply EvP.cons (by (conv => (lhs; whnf)))
    exact EvP.nil
    simp only [aFill, List.getElem?_cons_zero, List.getElem?_cons_succ, AV.cells, List.length_cons, List.length_nil, AV.flat, AV.one, setL, List.set_cons_zero, List.set_cons_succ, Nat.reduceAdd, Nat.reduceLeDiff, Nat.reduceMul, and_self, if_true, ↓reduceIte, Nat.zero_add, Nat.le_refl, List.range, List.range.loop, List.map_cons, List.map_nil, Nat.zero_le]
    rfl
    apply r_op
    exact rfl
    exact rfl
    apply g_build
    apply a_build
    apply EvP.cons (by (conv => (lhs; whnf)))
    exact EvP.nil
    simp only [aFill, List.getElem?_cons_zero, List.getElem?_cons_succ, AV.cells, List.length_cons, List.length_nil, AV.flat, AV.one, setL, List.set_cons_zero, List.set_cons_succ, Nat.reduceAdd, Nat.reduceLeDiff, Nat.reduceMul, and_self, if_true, ↓reduceIte, Nat.zero_add, Nat.le_refl, List.range, List.range.loop, List.map_cons, List.map_nil, Nat.zero_le]
    rfl
    apply r_box
    exact rfl
    exact rfl
    decide
    exact rfl
    (conv => (lhs; whnf))
    exact rfl
    (conv => (lhs; whnf))
    intro b1 hb1
    apply r_op
    exact rfl
    exact rfl
    apply a_assign
    (conv => (lhs; whnf))
    with_reducible refine runs_done ?_
    refine W.seq ?_
    refine W.seq ?_
    refine W.regionL (by decide +kernel) rfl ?_
    apply r_op
    exact rfl
    exact rfl
    apply a_move
    (conv => (lhs; whnf))
    with_reducible refine runs_done ?_
    refine W.block ?_
    refine W.seq ?_
    refine W.regionL (by decide +kernel) rfl ?_
    apply r_op
    exact rfl
    exact rfl
    apply g_binOp
    exact a_binI rfl rfl rfl
    apply r_op
    exact rfl
    exact rfl
    apply a_assign
    (conv => (lhs; whnf))
    with_reducible refine runs_done ?_
    refine W.condF rfl (by exact rfl) ?_
    refine W.seq ?_
    refine W.regionL (by decide +kernel) rfl ?_
    apply r_op
    exact rfl
    exact rfl
    apply g_binOp
    exact a_binI rfl rfl rfl
    apply r_op
    exact rfl
    exact rfl
    apply a_assign
    (conv => (lhs; whnf))
    with_reducible refine runs_done ?_
    refine W.condF rfl (by exact rfl) ?_
    refine W.seq ?_
    refine W.regionL (by decide +kernel) rfl ?_
    apply r_op
    exact rfl
    exact rfl
    apply g_binOp
    exact a_binI rfl rfl rfl
    apply r_op
    exact rfl
    exact rfl
    apply a_assign
    (conv => (lhs; whnf))
    with_reducible refine runs_done ?_
    refine W.condT rfl (by exact rfl) ?_
    refine W.seq ?_
    refine W.regionL (by decide +kernel) rfl ?_
    apply r_op
    exact rfl
    exact rfl
    apply a_move
    (conv => (lhs; whnf))
    apply r_callS
    exact rfl
    exact rfl
    decide
    exact rfl
    exact rfl
    exact rfl
    infer_instance
    exact rt w0 _ _ _ (by decide) t1 (by exact setBox_same)
    apply r_op
    exact rfl
    exact rfl
    apply a_move
    (conv => (lhs; whnf))
    apply r_callS
    exact rfl
    exact rfl
    decide
    exact rfl
    exact rfl
    exact rfl
    infer_instance
    exact rt w0 _ _ _ (by decide) t2 (by exact setBox_same)
    apply r_op
    exact rfl
    exact rfl
    apply a_move
    (conv => (lhs; whnf))
    apply r_callS
    exact rfl
    exact rfl
    decide
    exact rfl
    exact rfl
    exact rfl
    infer_instance
    exact rt w0 _ _ _ (by decide) t3 (by exact setBox_same)
    apply r_op
    exact rfl
    exact rfl
    apply g_fieldAddr
    exact a_fieldAddrP rfl (by decide)
    apply r_store
    exact rfl
    exact rfl
    exact rfl
    decide
    infer_instance
    exact rfl
    apply hb_ne (by exact ne_none' (by assumption))
    apply hb_ne (by exact ne_none' (by assumption))
    apply hb_ne (by exact ne_none' (by assumption))
    apply hb_ne (by exact ne_none' (by assumption))
    exact setBox_same
    (conv => (lhs; whnf))
    exact rfl
    (conv => (lhs; whnf))
    exact rfl
    exact of_decide_eq_true rfl
    exact rfl
    apply r_op
    exact rfl
    exact rfl
    apply g_fieldAddr
    exact a_fieldAddrP rfl (by decide)
    apply r_store
    exact rfl
    exact rfl
    exact rfl
    decide
    infer_instance
    exact rfl
    exact setBox_same
    (conv => (lhs; whnf))
    exact rfl
    (conv => (lhs; whnf))
    exact rfl
    exact of_decide_eq_true rfl
    exact rfl
    apply r_op
    exact rfl
    exact rfl
    apply g_fieldAddr
    exact a_fieldAddrP rfl (by decide)
    apply r_store
    exact rfl
    exact rfl
    exact rfl
    decide
    infer_instance
    exact rfl
    exact setBox_same
    (conv => (lhs; whnf))
    exact rfl
    (conv => (lhs; whnf))
    exact rfl
    exact of_decide_eq_true rfl
    exact rfl
    with_reducible refine runs_done ?_
    refine W.regionL (by decide +kernel) rfl ?_
    apply r_op
    exact rfl
    exact rfl
    apply a_move
    (conv => (lhs; whnf))
    apply r_callS
    exact rfl
    exact rfl
    decide
    exact rfl
    exact rfl
    exact rfl
    infer_instance
    exact rn w0 _ _ _ (by decide) n1 (by apply hb_ne (by exact ne_none (by assumption)); apply hb_ne (by exact ne_none (by assumption)); apply hb_ne (by exact ne_none (by assumption)); exact setBox_same)
    apply r_op
    exact rfl
    exact rfl
    apply a_move
    (conv => (lhs; whnf))
    apply r_callS
    exact rfl
    exact rfl
    decide
    exact rfl
    exact rfl
    exact rfl
    infer_instance
    exact rn w0 _ _ _ (by decide) n2 (by exact setBox_same)
    apply r_op
    exact rfl
    exact rfl
    apply a_move
    (conv => (lhs; whnf))
    apply r_callS
    exact rfl
    exact rfl
    decide
    exact rfl
    exact rfl
    exact rfl
    infer_instance
    exact rn w0 _ _ _ (by decide) n3 (by exact setBox_same)
    apply r_op
    exact rfl
    exact rfl
    apply a_move
    (conv => (lhs; whnf))
    apply r_callS
    exact rfl
    exact rfl
    decide
    exact rfl
    exact rfl
    exact rfl
    infer_instance
    exact rt w0 _ _ _ (by decide) t4 (by exact setBox_same)
    apply r_op
    exact rfl
    exact rfl
    apply g_fieldAddr
    exact a_fieldAddrP rfl (by decide)
    apply r_store
    exact rfl
    exact rfl
    exact rfl
    decide
    infer_instance
    exact rfl
    apply hb_ne (by exact ne_none' (by assumption))
    apply hb_ne (by exact ne_none' (by assumption))
    apply hb_ne (by exact ne_none' (by assumption))
    apply hb_ne (by exact ne_none' (by assumption))
    exact setBox_same
    (conv => (lhs; whnf))
    exact rfl
    (conv => (lhs; whnf))
    exact rfl
    exact of_decide_eq_true rfl
    exact rfl
    apply r_op
    exact rfl
    exact rfl
    apply g_fieldAddr
    exact a_fieldAddrP rfl (by decide)
    apply r_store
    exact rfl
    exact rfl
    exact rfl
    decide
    infer_instance
    exact rfl
    exact setBox_same
    (conv => (lhs; whnf))
    exact rfl
    (conv => (lhs; whnf))
    exact rfl
    exact of_decide_eq_true rfl
    exact rfl
    apply r_op
    exact rfl
    exact rfl
    apply g_fieldAddr
    exact a_fieldAddrP rfl (by decide)
    apply r_store
    exact rfl
    exact rfl
    exact rfl
    decide
    infer_instance
    exact rfl
    exact setBox_same
    (conv => (lhs; whnf))
    exact rfl
    (conv => (lhs; whnf))
    exact rfl
    exact of_decide_eq_true rfl
    exact rfl
    apply r_op
    exact rfl
    exact rfl
    apply g_fieldAddr
    exact a_fieldAddrP rfl (by decide)
    apply r_store
    exact rfl
    exact rfl
    exact rfl
    decide
    infer_instance
    exact rfl
    exact setBox_same
    (conv => (lhs; whnf))
    exact rfl
    (conv => (lhs; whnf))
    exact rfl
    exact of_decide_eq_true rfl
    exact rfl
    with_reducible refine runs_done ?_
    refine W.regionDK 1 [45, 46, 47] Ty.mixed (by decide +kernel) (by decide +kernel) rfl ?_
    apply r_op
    exact rfl
    exact rfl
    apply a_move
    (conv => (lhs; whnf))
    apply r_op
    exact rfl
    exact rfl
    apply a_move
    (conv => (lhs; whnf))
    apply r_op
    exact rfl
    exact rfl
    apply a_move
    (conv => (lhs; whnf))
    apply r_op
    exact rfl
    exact rfl
    apply g_binOp
    exact a_binI rfl rfl rfl
    apply r_op
    exact rfl
    exact rfl
    apply a_move
    (conv => (lhs; whnf))
    apply q_skip
    exact rfl
    exact want_f rfl rfl rfl (by exact rfl)
    apply q_skip
    exact rfl
    exact want_f rfl rfl rfl (by exact rfl)
    apply q_skip
    exact rfl
    exact want_f rfl rfl rfl (by exact rfl)
    apply q_skip
    exact rfl
    exact want_f rfl rfl rfl (by exact rfl)
    apply q_skip
    exact rfl
    exact want_f rfl rfl rfl (by exact rfl)
    apply q_skip
    exact rfl
    exact want_f rfl rfl rfl (by exact rfl)
    apply q_skip
    exact rfl
    exact want_f rfl rfl rfl (by exact rfl)
    apply q_skip
    exact rfl
    exact want_f rfl rfl rfl (by exact rfl)
    apply q_skip
    exact rfl
    exact want_f rfl rfl rfl (by exact rfl)
    apply r_op
    exact rfl
    exact rfl
    apply g_pick
    apply a_pickT rfl (by exact rfl)
    (conv => (lhs; whnf))
    apply r_op
    exact rfl
    exact rfl
    apply g_pick
    apply a_pickT rfl (by exact rfl)
    (conv => (lhs; whnf))
    apply r_op
    exact rfl
    exact rfl
    apply a_move
    (conv => (lhs; whnf))
    apply r_op
    exact rfl
    exact rfl
    apply a_move
    (conv => (lhs; whnf))
    apply r_op
    exact rfl
    exact rfl
    apply g_nilCheck
    exact a_nilCheck rfl rfl
    apply r_op
    exact rfl
    exact rfl
    apply g_fieldAddr
    exact a_fieldAddrP rfl (by decide)
    apply r_load
    exact rfl
    exact rfl
    exact rfl
    decide
    exact rfl
    apply hb_ne (by exact ne_none (by assumption))
    apply hb_ne (by exact ne_none (by assumption))
    apply hb_ne (by exact ne_none (by assumption))
    apply hb_ne (by exact ne_none (by assumption))
    exact setBox_same
    exact aLoad1 rfl
    apply r_op
    exact rfl
    exact rfl
    apply g_binOp
    exact a_nilI rfl rfl (by exact .inl rfl) rfl rfl rfl
    apply r_op
    exact rfl
    exact rfl
    apply g_pick
    apply a_pickT rfl (by exact rfl)
    (conv => (lhs; whnf))
    apply r_op
    exact rfl
    exact rfl
    apply a_assign
    (conv => (lhs; whnf))
    with_reducible refine runs_done ?_
    refine W.regionL (by decide +kernel) rfl ?_
    apply r_op
    exact rfl
    exact rfl
    apply g_binOp
    exact a_add64 rfl rfl (by omega)
    apply r_op
    exact rfl
    exact rfl
    apply a_move
    (conv => (lhs; whnf))
    with_reducible refine runs_done ?_
    exact ⟨0, by decide, .inr ⟨rfl, by repeat (first | exact setBox_same | apply hb_ne (by first | assumption | exact ne_none' (by first | assumption | exact none_in (by assumption) | exact none_in (none_in (by assumption)) | exact none_in (none_in (none_in (by assumption))) | exact none_in (none_in (none_in (none_in (by assumption)))) | exact none_in (none_in (none_in (none_in (none_in (by assumption))))) | exact none_in (none_in (none_in (none_in (none_in (none_in (by assumption)))))) | exact none_in (none_in (none_in (none_in (none_in (none_in (none_in (by assumption))))))) | exact none_in (none_in (none_in (none_in (none_in (none_in (none_in (none_in (by assumption)))))))) | fail) | exact ne_none (by first | assumption | exact none_in (by assumption) | exact none_in (none_in (by assumption)) | exact none_in (none_in (none_in (by assumption))) | exact none_in (none_in (none_in (none_in (by assumption)))) | exact none_in (none_in (none_in (none_in (none_in (by assumption))))) | exact none_in (none_in (none_in (none_in (none_in (none_in (by assumption)))))) | exact none_in (none_in (none_in (none_in (none_in (none_in (none_in (by assumption))))))) | exact none_in (none_in (none_in (none_in (none_in (none_in (none_in (none_in (by assumption)))))))) | fail) | fail)), setBox_same, by repeat (first | assumption | exact .refl _ | refine le_setBox ?_ (by first | assumption | exact none_in (by assumption) | exact none_in (none_in (by assumption)) | exact none_in (none_in (none_in (by assumption))) | exact none_in (none_in (none_in (none_in (by assumption)))) | exact none_in (none_in (none_in (none_in (none_in (by assumption))))) | exact none_in (none_in (none_in (none_in (none_in (none_in (by assumption)))))) | exact none_in (none_in (none_in (none_in (none_in (none_in (none_in (by assumption))))))) | exact none_in (none_in (none_in (none_in (none_in (none_in (none_in (none_in (by assumption)))))))) | fail)), by exact Has.by (by repeat (first | exact trivial | refine ⟨by first | trivial | exact Weak.refl _ | exact Weak.tok _ _ _ | exact Weak.of_eq (congrArg (AV.int _) (by omega)) | exact Weak.nils _ _ (.inr rfl), ?_⟩))⟩⟩
  · refine W.has hE ?_
    clear hE
    unfold z27 at h2
    unfold x27 at h4
    refine W.seq ?_
    refine W.regionL (by decide +kernel) rfl ?_
    apply r_op
    exact rfl
    exact rfl
    apply g_binOp
    exact a_binI rfl rfl rfl
    with_reducible refine runs_done ?_
    refine W.seq ?_
    refine W.condF rfl (by exact rfl) ?_
    refine W.exit ?_
    show W _ _ _ _ _ _ _
    refine W.seq ?_
    refine W.regionL (by decide +kernel) rfl ?_
    apply r_op
    exact rfl
    exact rfl
    apply g_fieldAddr
    exact a_fieldAddrP rfl (by decide)
    apply r_load
    exact rfl
    exact rfl
    exact rfl
    decide
    exact rfl
    assumption
    exact aLoad1 rfl
    apply r_op
    exact rfl
    exact rfl
    apply a_assign
    (conv => (lhs; whnf))
    with_reducible refine runs_done ?_
    refine W.seq ?_
    refine W.seq ?_
    refine W.regionL (by decide +kernel) rfl ?_
    apply r_op
    exact rfl
    exact rfl
    apply a_move
    (conv => (lhs; whnf))
    apply r_op
    exact rfl
    exact rfl
    apply g_call
    exact a_len_nils rfl
    apply r_op
    exact rfl
    exact rfl
    apply a_move
    (conv => (lhs; whnf))
    with_reducible refine runs_done ?_
    refine W.block ?_
    refine W.loop (fun k E s' => k = 0 ∧ s' = s ∧ Has [(0, .slc 2 [eRow row0] .no), (2, .ptr b2 0), (3, .int .u16 0), (4, .ptr b4 0), (6, .bool true), (123, .nils), (124, .int .i64 0), (125, .int .i64 0)] E) 0 ⟨rfl, rfl, by exact Has.by (by repeat (first | exact trivial | refine ⟨by first | trivial | exact Weak.refl _ | exact Weak.tok _ _ _ | exact Weak.of_eq (congrArg (AV.int _) (by omega)) | exact Weak.nils _ _ (.inr rfl), ?_⟩))⟩ ?_
    rintro k E s' ⟨rfl, rfl, hE⟩
    refine W.has hE ?_
    clear hE
    refine W.seq ?_
    refine W.regionL (by decide +kernel) rfl ?_
    apply r_op
    exact rfl
    exact rfl
    apply g_binOp
    exact a_binI rfl rfl rfl
    with_reducible refine runs_done ?_
    refine W.seq ?_
    refine W.condF rfl (by exact rfl) ?_
    refine W.exit ?_
    show W _ _ _ _ _ _ _
    refine W.seq ?_
    refine W.regionL (by decide +kernel) rfl ?_
    apply r_op
    exact rfl
    exact rfl
    apply a_assign
    (conv => (lhs; whnf))
    with_reducible refine runs_done ?_
    refine W.seq ?_
    refine W.seq ?_
    refine W.regionL (by decide +kernel) rfl ?_
    apply r_op
    exact rfl
    exact rfl
    apply a_move
    (conv => (lhs; whnf))
    apply r_op
    exact rfl
    exact rfl
    apply g_unOp
    exact a_not rfl
    apply r_op
    exact rfl
    exact rfl
    apply a_move
    (conv => (lhs; whnf))
    apply r_load
    exact rfl
    exact rfl
    exact rfl
    decide
    exact rfl
    assumption
    exact aLoadA rfl (by rfl) rfl
    apply r_callP
    exact rfl
    exact rfl
    exact rfl
    exact rfl
    exact rfl
    infer_instance
    exact hen
    apply r_op
    exact rfl
    exact rfl
    apply a_move
    (conv => (lhs; whnf))
    apply r_op
    exact rfl
    exact rfl
    apply a_move
    (conv => (lhs; whnf))
    apply r_callP
    exact rfl
    exact rfl
    exact rfl
    exact rfl
    exact rfl
    infer_instance
    exact heq
    apply r_op
    exact rfl
    exact rfl
    apply g_unOp
    exact a_not rfl
    apply r_op
    exact rfl
    exact rfl
    apply g_pick
    apply a_pickF rfl (by exact rfl)
    (conv => (lhs; whnf))
    with_reducible refine runs_done ?_
    refine W.condF rfl (by exact rfl) ?_
    refine W.skip ?_
    show W _ _ _ _ _ _ _
    refine W.seq ?_
    refine W.regionL (by decide +kernel) rfl ?_
    apply r_load
    exact rfl
    exact rfl
    exact rfl
    decide
    exact rfl
    assumption
    exact aLoadA rfl (by rfl) rfl
    apply r_store
    exact rfl
    exact rfl
    exact rfl
    decide
    infer_instance
    exact rfl
    assumption
    (conv => (lhs; whnf))
    exact rfl
    (conv => (lhs; whnf))
    exact rfl
    exact of_decide_eq_true rfl
    exact setL_whole rfl
    apply r_op
    exact rfl
    exact rfl
    apply a_assign
    (conv => (lhs; whnf))
    with_reducible refine runs_done ?_
    refine W.ret ?_
    show Q Exit.ret _ _
    refine post_q hQ (by apply res_cell; exact rfl; exact setBox_same; exact aLoadA rfl (by rfl) rfl; apply res_tmp; exact rfl; exact res_nil) (.inl rfl) (by refine le_setBox ?_ (by assumption); assumption) ?_
    (conv => (lhs; whnf))
    rfl
end Go.Proofs.YtkbmkhhcppfcnaaDoor
end
