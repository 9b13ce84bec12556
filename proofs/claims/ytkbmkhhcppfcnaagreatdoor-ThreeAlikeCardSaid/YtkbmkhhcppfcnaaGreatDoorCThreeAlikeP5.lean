/- The law ThreeAlike returns true for every input, and its arguments read as before: the tied card. No conditions. This is part 5 of 8 of its proof; the parts are read in order. No conditions. -/
import Derived.Test.YtkbmkhhcppfcnaaGreatDoorCThreeAlikeP4
section
set_option linter.unusedVariables false
set_option linter.unusedSimpArgs false
set_option maxRecDepth 100000
set_option maxHeartbeats 1000000
namespace Go.Proofs.YtkbmkhhcppfcnaaGreatDoor
open Go.Al Go.RowKit
def preR (x : Sub) : List Row := if x.acks = [] then [] else [⟨rkey 3 97 x.id 0, acksB x⟩]
theorem preR_len (x : Sub) : (preR x).length ≤ 1 := by unfold preR; split <;> simp
theorem enc3_eq (x : Sub) : enc3 x = (preR x ++ x.queue.map (msgRow x.id)) ++ [⟨rkey 3 115 x.id 0, subB x⟩] := rfl
theorem map_take_snoc {α β : Type} (f : α → β) {l : List α} {i : Nat} {a : α} (h : l[i]? = some a) : (l.take (i + 1)).map f = (l.take i).map f ++ [f a] := by rw [take_snoc h, List.map_append]; rfl
theorem bd_txts (l : List (List UInt8)) (h : ∀ a ∈ l, a.length ≤ 1000) : (txtsB l).length ≤ 1008 * l.length := txtsB_len l h
theorem all1 {a : List UInt8} (h : a.length ≤ 1000) : ∀ b ∈ [a], b.length ≤ 1000 := by simpa using h
theorem all2 {a b : List UInt8} (h : a.length ≤ 1000) (k : b.length ≤ 1000) : ∀ c ∈ [a, b], c.length ≤ 1000 := by simp; exact ⟨h, k⟩
theorem all3 {a b c : List UInt8} (h : a.length ≤ 1000) (k : b.length ≤ 1000) (l : c.length ≤ 1000) : ∀ d ∈ [a, b, c], d.length ≤ 1000 := by simp; exact ⟨h, k, l⟩
theorem encW_room (w0 : Base) (hL : Laid w0) (x : Sub) (hx : Fits x) (σ : St) : CallW Tryz.prog w0 16 [eSub x] σ (fun r s => ∃ tk', r = .slc 2 ((enc3 x).map eRow) tk' ∧ Moves σ .full s tk') := by
  refine CallW.start Tryz.func16 rfl Tryz.ntmps16 (by simp) fun Q hQ => ?_
  refine W.seq ?_; refine W.regionL (by decide +kernel) rfl ?_; apply r_boxF; exact rfl; exact rfl; exact rfl; (conv => (lhs; whnf)); exact rfl; apply r_op; exact rfl; exact rfl; apply a_assign; (conv => (lhs; whnf)); (with_reducible refine runs_done ?_); refine W.seq ?_; refine W.regionL (by decide +kernel) rfl ?_; apply r_allocN; exact rfl; exact rfl; decide; infer_instance; exact rfl; exact rfl
  intro b1 hb1; (with_reducible refine runs_done ?_); refine W.seq ?_; refine W.regionL (by decide +kernel) rfl ?_; apply r_op; exact rfl; exact rfl; exact a_makeFunc rfl rfl; apply r_op; exact rfl; exact rfl; apply a_assign; (conv => (lhs; whnf)); (with_reducible refine runs_done ?_); refine W.seq ?_; refine W.seq ?_; refine W.regionL (by decide +kernel) rfl ?_; apply r_op; exact rfl; exact rfl
  apply g_fieldAddr; exact a_fieldAddr1 rfl (by decide) rfl; apply r_op; exact rfl; exact rfl; apply g_load; exact a_load1 rfl rfl; apply r_op; exact rfl; exact rfl; apply g_call; exact a_len_slc rfl; apply r_op; exact rfl; exact rfl; apply g_binOp; exact a_binI rfl rfl rfl; (with_reducible refine runs_done ?_)
  rename Nat => bo
  have hbo : σ.box bo = none := hb1
  have hmo : Moves (σ.setBox bo [.slc 2 (([] : List Row).map eRow) .full]) .full (σ.setBox bo [.slc 2 [] .full]) .full := Moves.full _
  have hlo : ([] : List Row).length ≤ 1000000 := by simp
  refine W.meet (fun E s => ∃ tk, Moves (σ.setBox bo [.slc 2 ((preR x).map eRow) tk]) .full s tk ∧ Has [(1, .vp (eSub x)), (3, .ptr bo 0), (4, .fn (.func 57) [] [.ptr bo 0, .vp (eSub x)])] E) ?_ ?_
  · refine W.cond rfl (fun hc => ?_) (fun hc => ?_)
    · have hne : x.acks ≠ [] := by rintro e; simp [e] at hc
      refine W.seq ?_; refine W.regionL (by decide +kernel) rfl ?_; apply r_allocN; exact rfl; exact rfl; decide; infer_instance; exact rfl; exact rfl; intro b1 hb1; (with_reducible refine runs_done ?_); refine W.seq ?_; refine W.regionL (by decide +kernel) rfl ?_; apply r_op; exact rfl; exact rfl; apply g_fieldAddr; exact a_fieldAddr1 rfl (by decide) rfl; apply r_op; exact rfl; exact rfl
      apply g_load; exact a_load1 rfl rfl; apply r_op; exact rfl; exact rfl; apply g_call; exact a_len_slc rfl; apply r_op; exact rfl; exact rfl; apply g_buildSlice; apply a_build1; (conv => (lhs; whnf)); exact rfl; exact rfl; decide; apply r_callB; exact rfl; exact rfl; decide; exact rfl; exact rfl; exact rfl; infer_instance; exact writerNum w0 (acc := []) [_] (Moves.full _) (by simp) (by simp)
      intro tk1 σ1 hm; (with_reducible refine runs_done ?_); refine W.seq ?_; refine W.regionL (by decide +kernel) rfl ?_; apply r_op; exact rfl; exact rfl; apply g_fieldAddr; exact a_fieldAddr1 rfl (by decide) rfl; apply r_op; exact rfl; exact rfl; apply g_load; exact a_load1 rfl rfl; apply r_op; exact rfl; exact rfl; apply a_assign; (conv => (lhs; whnf)); (with_reducible refine runs_done ?_)
      refine W.seq ?_; refine W.seq ?_; refine W.regionL (by decide +kernel) rfl ?_; apply r_op; exact rfl; exact rfl; apply g_fieldAddr; exact a_fieldAddr1 rfl (by decide) rfl; apply r_op; exact rfl; exact rfl; apply g_load; exact a_load1 rfl rfl; apply r_op; exact rfl; exact rfl; apply g_call; exact a_len_slc rfl; apply r_op; exact rfl; exact rfl; apply a_move; (conv => (lhs; whnf))
      (with_reducible refine runs_done ?_); refine W.block ?_
      generalize hS : σ.setBox bo [.slc 2 [] .full] = S at *
      rename Nat => bw
      refine W.loop (fun k E s => ∃ (i : Nat) (acc : List UInt8) (last : Int) (tk : Tok), i ≤ x.acks.length ∧ k = x.acks.length - i ∧ acc.length ≤ 8 + 8 * i ∧ acc ++ gapsB last (x.acks.drop i) = acksB x ∧ Moves (S.setBox bw [.slc 1 (aBytes acc) tk]) .full s tk ∧ Has [(1, .vp (eSub x)), (3, .ptr bo 0), (4, .fn (.func 57) [] [.ptr bo 0, .vp (eSub x)]), (5, .ptr bw 0), (6, .int .i64 last), (26, eInts x.acks), (27, .int .i64 x.acks.length), (28, .int .i64 i)] E) x.acks.length ⟨0, num x.acks.length, x.floor, tk1, Nat.zero_le _, rfl, by have := num_len x.acks.length; omega, rfl, ?_, ?_⟩ ?_
      · simpa [numsB] using hm
      · rw [List.length_map]
        exact Has.by (by repeat (first | exact trivial | refine ⟨by first | trivial | exact Weak.refl _ | exact Weak.tok _ _ _ | exact Weak.of_eq (congrArg (AV.int _) (by omega)) | exact Weak.nils _ _ (.inr rfl), ?_⟩))
      · rintro k E s ⟨i, acc, last, tk, hi, rfl, hlen, hacc, hm, hE⟩
        refine W.has hE ?_; clear hE
        have hna := hx.nacks
        have hq : acc.length ≤ 1000000 := by omega
        refine W.seq ?_; refine W.regionL (by decide +kernel) rfl ?_; apply r_op; exact rfl; exact rfl; apply g_binOp; exact a_binI rfl rfl rfl; (with_reducible refine runs_done ?_); refine W.seq ?_; refine W.cond rfl (fun hc => ?_) (fun hc => ?_)
        · have hlt : i < x.acks.length := by simp at hc; omega
          have ga : x.acks[i]? = some x.acks[i] := by simp [hlt]
          have hd := gapsB_drop ga last
          have h8 := num_len (w64 (x.acks[i] - last))
          generalize x.acks[i] = a at ga hd h8
          refine W.skip ?_; show W _ _ _ _ _ _ _; refine W.seq ?_; refine W.block ?_; refine W.seq ?_; refine W.regionL (by decide +kernel) rfl ?_; apply r_op; exact rfl; exact rfl; apply g_indexAddr; exact a_indexAddr rfl rfl (by decide) (by omega) (by exact get_map (by assumption)); apply r_op; exact rfl; exact rfl; apply g_load; exact a_load1 rfl rfl; apply r_op; exact rfl; exact rfl
          apply a_assign; (conv => (lhs; whnf)); (with_reducible refine runs_done ?_); refine W.seq ?_; refine W.regionL (by decide +kernel) rfl ?_; apply r_op; exact rfl; exact rfl; apply a_move; (conv => (lhs; whnf)); apply r_op; exact rfl; exact rfl; apply a_move; (conv => (lhs; whnf)); apply r_op; exact rfl; exact rfl; apply g_binOp; exact a_binI rfl rfl rfl; apply r_op; exact rfl; exact rfl
          apply g_buildSlice; apply a_build1; (conv => (lhs; whnf)); exact rfl; exact rfl; decide; apply r_callB; exact rfl; exact rfl; decide; exact rfl; exact rfl; exact rfl; infer_instance; exact writerNum w0 [_] (by assumption) (by exact Nat.le_trans (by assumption) (by omega)) (by simp); intro tk1 σ1 hm; (with_reducible refine runs_done ?_); refine W.regionL (by decide +kernel) rfl ?_
          apply r_op; exact rfl; exact rfl; apply a_move; (conv => (lhs; whnf)); apply r_op; exact rfl; exact rfl; apply a_assign; (conv => (lhs; whnf)); (with_reducible refine runs_done ?_); refine W.regionL (by decide +kernel) rfl ?_; apply r_op; exact rfl; exact rfl; apply g_binOp; exact a_add64 rfl rfl (by omega); apply r_op; exact rfl; exact rfl; apply a_move; (conv => (lhs; whnf))
          (with_reducible refine runs_done ?_)
          exact ⟨x.acks.length - (i + 1), by omega, i + 1, acc ++ numsB [w64 (a - last)], a, tk1, by omega, rfl, by simp [numsB]; omega, by rw [← hacc, hd]; simp [numsB], hm, by exact Has.by (by repeat (first | exact trivial | refine ⟨by first | trivial | exact Weak.refl _ | exact Weak.tok _ _ _ | exact Weak.of_eq (congrArg (AV.int _) (by omega)) | exact Weak.nils _ _ (.inr rfl), ?_⟩))⟩
        · have hge : i = x.acks.length := by simp at hc; omega
          rw [hge, List.drop_length, gapsB, List.append_nil] at hacc
          subst hacc
          refine W.exit ?_; show W _ _ _ _ _ _ _; refine W.regionL (by decide +kernel) rfl ?_; apply r_op; exact rfl; exact rfl; apply a_move; (conv => (lhs; whnf)); apply r_load; exact rfl; exact rfl; exact rfl; decide; exact rfl; apply hb_moves (by assumption); exact setBox_same; exact aLoad1 rfl; apply r_callB; exact rfl; exact rfl; decide; exact rfl; exact rfl; exact rfl; infer_instance
          exact lay_any w0 hL (t := 97) (Moves.more (by assumption) (Moves.in (by assumption) (by assumption))) (by assumption); intro tk1 σ1 hm; (with_reducible refine runs_done ?_)
          rw [preR, if_neg hne]
          exact ⟨tk1, hm, by exact Has.by (by repeat (first | exact trivial | refine ⟨by first | trivial | exact Weak.refl _ | exact Weak.tok _ _ _ | exact Weak.of_eq (congrArg (AV.int _) (by omega)) | exact Weak.nils _ _ (.inr rfl), ?_⟩))⟩
    · have hne : x.acks = [] := by simpa using hc
      refine W.skip ?_
      rw [preR, if_pos hne]
      exact ⟨.full, hmo, by exact Has.by (by repeat (first | exact trivial | refine ⟨by first | trivial | exact Weak.refl _ | exact Weak.tok _ _ _ | exact Weak.of_eq (congrArg (AV.int _) (by omega)) | exact Weak.nils _ _ (.inr rfl), ?_⟩))⟩
  · rintro E s ⟨tk, hm, hE⟩
    refine W.has hE ?_; clear hE; refine W.seq ?_; refine W.seq ?_; refine W.regionL (by decide +kernel) rfl ?_; apply r_op; exact rfl; exact rfl; apply g_fieldAddr; exact a_fieldAddr1 rfl (by decide) rfl; apply r_op; exact rfl; exact rfl; apply g_load; exact a_load1 rfl rfl; apply r_op; exact rfl; exact rfl; apply g_call; exact a_len_slc rfl; apply r_op; exact rfl; exact rfl; apply a_move
    (conv => (lhs; whnf)); (with_reducible refine runs_done ?_); refine W.block ?_
    refine W.loop (fun k E s => ∃ (i : Nat) (tk : Tok), i ≤ x.queue.length ∧ k = x.queue.length - i ∧ Moves (σ.setBox bo [.slc 2 ((preR x ++ (x.queue.take i).map (msgRow x.id)).map eRow) tk]) .full s tk ∧ Has [(1, .vp (eSub x)), (3, .ptr bo 0), (4, .fn (.func 57) [] [.ptr bo 0, .vp (eSub x)]), (43, eMsgs x.queue), (44, .int .i64 x.queue.length), (45, .int .i64 i)] E) x.queue.length ⟨0, tk, Nat.zero_le _, rfl, by rw [List.take_zero, List.map_nil, List.append_nil]; exact hm, ?_⟩ ?_
    · rw [List.length_map]
      exact Has.by (by repeat (first | exact trivial | refine ⟨by first | trivial | exact Weak.refl _ | exact Weak.tok _ _ _ | exact Weak.of_eq (congrArg (AV.int _) (by omega)) | exact Weak.nils _ _ (.inr rfl), ?_⟩))
    · rintro k E s ⟨i, tk, hi, rfl, hm, hE⟩
      refine W.has hE ?_; clear hE
      have hp := preR_len x
      have hnq := hx.nqueue
      have htk := List.length_take_le i x.queue
      have hlo : (preR x ++ (x.queue.take i).map (msgRow x.id)).length ≤ 1000000 := by simp; omega
      refine W.seq ?_; refine W.regionL (by decide +kernel) rfl ?_; apply r_op; exact rfl; exact rfl; apply g_binOp; exact a_binI rfl rfl rfl; (with_reducible refine runs_done ?_); refine W.seq ?_; refine W.cond rfl (fun hc => ?_) (fun hc => ?_)
      · have hlt : i < x.queue.length := by simp at hc; omega
        have ga : x.queue[i]? = some x.queue[i] := by simp [hlt]
        have hd := map_take_snoc (msgRow x.id) ga
        obtain ⟨hb1, hb2⟩ := hx.queue _ (List.mem_of_getElem? ga)
        generalize x.queue[i] = m at ga hd hb1 hb2
        refine W.skip ?_; show W _ _ _ _ _ _ _; refine W.seq ?_; refine W.block ?_; refine W.seq ?_; refine W.regionL (by decide +kernel) rfl ?_; apply r_op; exact rfl; exact rfl; apply g_indexAddr; exact a_indexAddr rfl rfl (by decide) (by omega) (by exact get_map (by assumption)); apply r_op; exact rfl; exact rfl; apply g_load; exact a_loadA rfl (by rfl) rfl; apply r_alloc; exact rfl; exact rfl
        decide; exact rfl; (conv => (lhs; whnf)); intro b1 hb1; apply r_store; exact rfl; exact rfl; exact rfl; decide; infer_instance; exact rfl; exact setBox_same; (conv => (lhs; whnf)); exact rfl; (conv => (lhs; whnf)); exact rfl; exact of_decide_eq_true rfl; exact setL_whole rfl; refine runs_done ?_; show W _ _ _ _ _ _ _; refine W.freeze1 10 (eMsg m) (by assumption) rfl rfl rfl ?_
        refine W.seq ?_; refine W.regionL (by decide +kernel) rfl ?_; apply r_allocN; exact rfl; exact rfl; decide; infer_instance; exact rfl; exact rfl; intro b1 hb1; (with_reducible refine runs_done ?_); refine W.seq ?_; refine W.regionL (by decide +kernel) rfl ?_; apply r_op; exact rfl; exact rfl; apply g_fieldAddr; exact a_fieldAddr1 rfl (by decide) rfl; apply r_op; exact rfl; exact rfl
        apply g_load; exact a_load1 rfl rfl; apply r_op; exact rfl; exact rfl; apply g_fieldAddr; exact a_fieldAddr1 rfl (by decide) rfl; apply r_op; exact rfl; exact rfl; apply g_load; exact a_load1 rfl rfl; apply r_op; exact rfl; exact rfl; apply g_buildSlice; apply a_buildN; apply EvP.cons (by (conv => (lhs; whnf))); apply EvP.cons (by (conv => (lhs; whnf))); exact EvP.nil; (conv => (lhs; whnf))
        exact rfl; exact rfl; decide; apply r_callB; exact rfl; exact rfl; decide; exact rfl; exact rfl; exact rfl; infer_instance; exact writerText w0 (acc := []) [_, _] (Moves.full _) (by simp) (by simp) (by exact all2 (by assumption) (by assumption)); intro tk1 σ1 hm; (with_reducible refine runs_done ?_); refine W.seq ?_
        refine W.regionDK 0 [58] Ty.mixed (by decide +kernel) (by decide +kernel) rfl ?_; apply r_op; exact rfl; exact rfl; apply g_fieldAddr; exact a_fieldAddr1 rfl (by decide) rfl; apply r_op; exact rfl; exact rfl; apply g_load; exact a_load1 rfl rfl; apply r_op; exact rfl; exact rfl; apply g_fieldAddr; exact a_fieldAddr1 rfl (by decide) rfl; apply r_op; exact rfl; exact rfl
        apply g_load; exact a_load1 rfl rfl; apply r_op; exact rfl; exact rfl; apply g_fieldAddr; exact a_fieldAddr1 rfl (by decide) rfl; apply r_op; exact rfl; exact rfl; apply g_load; exact a_load1 rfl rfl; apply r_op; exact rfl; exact rfl; apply g_load; exact a_loadA rfl (by rfl) rfl; apply r_callP; exact rfl; exact rfl; exact rfl; exact rfl; exact rfl; infer_instance; exact death_any w0 _
        apply r_op; exact rfl; exact rfl; apply g_buildSlice; apply a_buildN; apply EvP.cons (by (conv => (lhs; whnf))); apply EvP.cons (by (conv => (lhs; whnf))); apply EvP.cons (by (conv => (lhs; whnf))); apply EvP.cons (by (conv => (lhs; whnf))); exact EvP.nil; (conv => (lhs; whnf)); exact rfl; exact rfl; decide; apply r_callB; exact rfl; exact rfl; decide; exact rfl; exact rfl; exact rfl
        infer_instance
        exact writerNum w0 [_, _, _, _] (by assumption) (by exact Nat.le_trans (by exact bd_txts _ (by exact all2 (by assumption) (by assumption))) (by simp only [List.length_cons, List.length_nil]; omega)) (by simp)
        intro tk1 σ1 hm; (with_reducible refine runs_done ?_); refine W.regionL (by decide +kernel) rfl ?_; apply r_op; exact rfl; exact rfl; apply a_move; (conv => (lhs; whnf)); apply r_op; exact rfl; exact rfl; apply g_fieldAddr; exact a_fieldAddr1 rfl (by decide) rfl; apply r_op; exact rfl; exact rfl; apply g_load; exact a_load1 rfl rfl; apply r_load; exact rfl; exact rfl; exact rfl; decide
        exact rfl; apply hb_moves (by assumption); exact setBox_same; exact aLoad1 rfl; apply r_callB; exact rfl; exact rfl; decide; exact rfl; exact rfl; exact rfl; infer_instance; exact lay_any w0 hL (t := 113) (Moves.more (by assumption) (Moves.in (by assumption) (by assumption))) (by assumption); intro tk1 σ1 hm; (with_reducible refine runs_done ?_); refine W.regionL (by decide +kernel) rfl ?_
        apply r_op; exact rfl; exact rfl; apply g_binOp; exact a_add64 rfl rfl (by omega); apply r_op; exact rfl; exact rfl; apply a_move; (conv => (lhs; whnf)); (with_reducible refine runs_done ?_)
        refine ⟨x.queue.length - (i + 1), by omega, i + 1, tk1, by omega, rfl, ?_, by exact Has.by (by repeat (first | exact trivial | refine ⟨by first | trivial | exact Weak.refl _ | exact Weak.tok _ _ _ | exact Weak.of_eq (congrArg (AV.int _) (by omega)) | exact Weak.nils _ _ (.inr rfl), ?_⟩))⟩
        have e : msgRow x.id m = ⟨rkey 3 113 x.id m.seq, [] ++ txtsB [m.body, m.attr] ++ numsB [m.tries, m.until_, m.prio, deathN m]⟩ := by simp [msgRow, msgB, txtsB, numsB]
        rw [hd, ← List.append_assoc, e]
        exact hm
      · have hge : i = x.queue.length := by simp at hc; omega
        rw [hge, List.take_length] at hm hlo
        obtain ⟨hs1, hs2, hs3, hs4⟩ := And.intro hx.name (And.intro hx.topic (And.intro hx.want hx.note))
        refine W.exit ?_; show W _ _ _ _ _ _ _; refine W.seq ?_; refine W.regionL (by decide +kernel) rfl ?_; apply r_allocN; exact rfl; exact rfl; decide; infer_instance; exact rfl; exact rfl; intro b1 hb1; (with_reducible refine runs_done ?_); refine W.seq ?_; refine W.regionL (by decide +kernel) rfl ?_; apply r_op; exact rfl; exact rfl; apply g_fieldAddr; exact a_fieldAddr1 rfl (by decide) rfl
        apply r_op; exact rfl; exact rfl; apply g_load; exact a_load1 rfl rfl; apply r_op; exact rfl; exact rfl; apply g_fieldAddr; exact a_fieldAddr1 rfl (by decide) rfl; apply r_op; exact rfl; exact rfl; apply g_load; exact a_load1 rfl rfl; apply r_op; exact rfl; exact rfl; apply g_fieldAddr; exact a_fieldAddr1 rfl (by decide) rfl; apply r_op; exact rfl; exact rfl; apply g_load
        exact a_load1 rfl rfl; apply r_op; exact rfl; exact rfl; apply g_buildSlice; apply a_buildN; apply EvP.cons (by (conv => (lhs; whnf))); apply EvP.cons (by (conv => (lhs; whnf))); apply EvP.cons (by (conv => (lhs; whnf))); exact EvP.nil; (conv => (lhs; whnf)); exact rfl; exact rfl; decide; apply r_callB; exact rfl; exact rfl; decide; exact rfl; exact rfl; exact rfl; infer_instance
        exact writerText w0 (acc := []) [_, _, _] (Moves.full _) (by simp) (by simp) (by exact all3 (by assumption) (by assumption) (by assumption)); intro tk1 σ1 hm; (with_reducible refine runs_done ?_); refine W.seq ?_; refine W.regionL (by decide +kernel) rfl ?_; apply r_op; exact rfl; exact rfl; apply g_fieldAddr; exact a_fieldAddr1 rfl (by decide) rfl; apply r_op; exact rfl; exact rfl
        apply g_load; exact a_load1 rfl rfl; apply r_op; exact rfl; exact rfl; apply g_fieldAddr; exact a_fieldAddr1 rfl (by decide) rfl; apply r_op; exact rfl; exact rfl; apply g_load; exact a_load1 rfl rfl; apply r_op; exact rfl; exact rfl; apply g_fieldAddr; exact a_fieldAddr1 rfl (by decide) rfl; apply r_op; exact rfl; exact rfl; apply g_load; exact a_load1 rfl rfl; apply r_op; exact rfl
        exact rfl; apply g_buildSlice; apply a_buildN; apply EvP.cons (by (conv => (lhs; whnf))); apply EvP.cons (by (conv => (lhs; whnf))); apply EvP.cons (by (conv => (lhs; whnf))); exact EvP.nil; (conv => (lhs; whnf)); exact rfl; exact rfl; decide; apply r_callB; exact rfl; exact rfl; decide; exact rfl; exact rfl; exact rfl; infer_instance
        exact writerNum w0 [_, _, _] (by assumption) (by exact Nat.le_trans (by exact bd_txts _ (by exact all3 (by assumption) (by assumption) (by assumption))) (by simp only [List.length_cons, List.length_nil]; omega)) (by simp)
        intro tk1 σ1 hm; (with_reducible refine runs_done ?_); refine W.seq ?_; refine W.regionL (by decide +kernel) rfl ?_; apply r_op; exact rfl; exact rfl; apply g_fieldAddr; exact a_fieldAddr1 rfl (by decide) rfl; apply r_op; exact rfl; exact rfl; apply g_load; exact a_load1 rfl rfl; apply r_op; exact rfl; exact rfl; apply g_buildSlice; apply a_build1; (conv => (lhs; whnf)); exact rfl; exact rfl
        decide; apply r_callB; exact rfl; exact rfl; decide; exact rfl; exact rfl; exact rfl; infer_instance
        exact writerText w0 [_] (by assumption) (by exact Nat.le_trans (by apply bd_app; exact bd_txts _ (by exact all3 (by assumption) (by assumption) (by assumption)); exact bd_nums _) (by simp only [List.length_cons, List.length_nil]; omega)) (by simp) (by exact all1 (by assumption))
        intro tk1 σ1 hm; (with_reducible refine runs_done ?_); refine W.seq ?_; refine W.regionL (by decide +kernel) rfl ?_; apply r_op; exact rfl; exact rfl; apply a_move; (conv => (lhs; whnf)); apply r_load; exact rfl; exact rfl; exact rfl; decide; exact rfl; apply hb_moves (by assumption); exact setBox_same; exact aLoad1 rfl; apply r_callB; exact rfl; exact rfl; decide; exact rfl; exact rfl
        exact rfl; infer_instance; exact lay_any w0 hL (t := 115) (Moves.more (by assumption) (Moves.in (by assumption) (by assumption))) (by assumption); intro tk1 σ1 hm; (with_reducible refine runs_done ?_); refine W.seq ?_; refine W.regionL (by decide +kernel) rfl ?_; apply r_load; exact rfl; exact rfl; exact rfl; decide; exact rfl; apply hb_moves (by assumption); exact setBox_same
        exact aLoad1 rfl; apply r_op; exact rfl; exact rfl; apply a_assign; (conv => (lhs; whnf)); (with_reducible refine runs_done ?_); refine W.ret ?_; show Q Exit.ret _ _; refine post_p hQ rfl rfl ?_; refine ⟨tk1, ?_, hm.in hbo⟩
        rw [enc3_eq]
        show AV.slc 2 (List.map eRow (preR x ++ List.map (msgRow x.id) x.queue ++ [{ key := rkey 3 115 x.id 0, val := [] ++ txtsB [x.name, x.topic, x.want] ++ numsB [x.lease, x.most, x.floor] ++ txtsB [x.note] }])) tk1 = _
        congr 5
        simp [txtsB, numsB, subB]
end Go.Proofs.YtkbmkhhcppfcnaaGreatDoor
end
section
set_option linter.unusedVariables false
set_option linter.unusedSimpArgs false
set_option maxRecDepth 100000
set_option maxHeartbeats 1000000
namespace Go.Proofs.YtkbmkhhcppfcnaaGreatDoor
open Go.Al Go.RowKit
structure RunAt (σ : St) (F FO : List Nat) (I : Nat → St → Prop) (D : St → Prop) (bo : Nat) (acc : List Row) (s : St) : Prop where
  k : Kp F FO σ s
  b : ∃ b, s.box bo = some [.bool b] ∧ (b = true ∧ I acc.length s ∨ b = false ∧ D s)
section
variable {σ : St} {F FO : List Nat} {I : Nat → St → Prop} {D : St → Prop} {bo : Nat} {acc : List Row} {s : St}
theorem RunAt.fresh (hIF : ∀ k s, I k s → (∀ i ∈ F, s.box i ≠ none) ∧ ∀ i ∈ FO, s.obj i ≠ none) (hDF : ∀ s, D s → (∀ i ∈ F, s.box i ≠ none) ∧ ∀ i ∈ FO, s.obj i ≠ none) (h : RunAt σ F FO I D bo acc s) {c : Nat} (hc : s.box c = none) : σ.box c = none ∧ c ≠ bo := by
  obtain ⟨b, hb, hq⟩ := h.b
  refine ⟨?_, by rintro rfl; rw [hb] at hc; cases hc⟩
  cases e : σ.box c with
  | none => rfl
  | some cs =>
    by_cases hF : c ∈ F
    · rcases hq with ⟨_, hi⟩ | ⟨_, hd⟩
      · exact absurd hc ((hIF _ _ hi).1 c hF)
      · exact absurd hc ((hDF _ hd).1 c hF)
    · rw [h.k.box c cs hF e] at hc; cases hc
theorem kp_set {F FO : List Nat} {a b : St} (h : Kp F FO a b) {c : Nat} {cs : List AV} (hc : a.box c = none) : Kp F FO a (b.setBox c cs) := ⟨fun i ds hi e => by rw [setBox_ne (by rintro rfl; rw [hc] at e; cases e)]; exact h.box i ds hi e, h.obj⟩
theorem RunAt.new (hI : ∀ k, Free σ (I k)) (hD : Free σ D) (h : RunAt σ F FO I D bo acc s) {c : Nat} (cs : List AV) (hc : σ.box c = none ∧ c ≠ bo) : RunAt σ F FO I D bo acc (s.setBox c cs) := by
  obtain ⟨b, hb, hq⟩ := h.b
  refine ⟨kp_set h.k hc.1, b, by rw [setBox_ne (Ne.symm hc.2)]; exact hb, ?_⟩
  exact hq.imp (fun ⟨a, b⟩ => ⟨a, (hI _).box s c cs hc.1 b⟩) (fun ⟨a, b⟩ => ⟨a, hD.box s c cs hc.1 b⟩)
theorem pre_at {l acc : List Row} {r : Row} (h : acc ++ [r] <+: l) : (l.map fun r => [eRow r])[acc.length]? = some [eRow r] := by
  obtain ⟨t, rfl⟩ := h
  simp
theorem lay1_step (w0 : Base) (hL : Laid w0) (x : Sub) (l : Nat) (hI : ∀ k, Free σ (I k)) (hD : Free σ D) (hr : ∀ k xs s, ((enc1 x).map fun r => [eRow r])[k]? = some xs → I k s → RoundW Tryz.prog w0 l xs s (fun r s' => Kp F FO s s' ∧ (r = .bool true ∧ I (k + 1) s' ∨ r = .bool false ∧ D s')))
    (hbo : σ.box bo = none) (hF : bo ∉ F) (h : RunAt σ F FO I D bo acc s) (t : UInt8) (seq : Int) (ps : List Part) (tk : Tok) (h1 : ∀ l, Part.s l ∈ ps → l.length ≤ 100000) (h2 : (formB ps).length ≤ 10000000) (h3 : ps.length ≤ 1000) (hp : acc ++ [⟨rkey 1 t x.id seq, formB ps⟩] <+: enc1 x) :
    CallW Tryz.prog w0 77 [.int .u8 t.toNat, .int .i64 seq, .slc 1 (ps.map Part.v) tk, .ptr bo 0, .vp (.fn (.yield l) [] []), .vp (eSub x)] s (fun r s' => r = .tup [] ∧ RunAt σ F FO I D bo (acc ++ [⟨rkey 1 t x.id seq, formB ps⟩]) s') := by
  obtain ⟨b, hb, ⟨rfl, hi⟩ | ⟨rfl, hd⟩⟩ := h.b
  · refine lay1_on w0 hL x t seq ps tk bo l s h1 h2 h3 hb (hr _ _ _ (pre_at hp) hi) ?_
    rintro r s' ⟨hk, ⟨rfl, hi'⟩ | ⟨rfl, hd'⟩⟩
    · refine ⟨true, rfl, hk.box _ _ hF hb, rfl, kp_set (h.k.trans hk) hbo, true, setBox_same, .inl ⟨rfl, ?_⟩⟩
      rw [List.length_append]
      exact (hI _).box _ _ _ hbo hi'
    · exact ⟨false, rfl, hk.box _ _ hF hb, rfl, kp_set (h.k.trans hk) hbo, false, setBox_same, .inr ⟨rfl, hD.box _ _ _ hbo hd'⟩⟩
  · exact lay1_off w0 x t seq ps tk bo l s hb ⟨rfl, h.k, false, hb, .inr ⟨rfl, hd⟩⟩
end
theorem enc1_pa (x : Sub) (i : Nat) : (x.acks.take i).map (ack1 x.id) <+: enc1 x := ((List.take_prefix i x.acks).map _).trans ⟨note1 x ++ x.queue.map (q1 x.id) ++ [s1 x] ++ want1 x ++ x.queue.flatMap (x1 x.id), by simp [enc1, encB, encA]⟩
theorem enc1_pn (x : Sub) : encA x <+: enc1 x := ⟨x.queue.map (q1 x.id) ++ [s1 x] ++ want1 x ++ x.queue.flatMap (x1 x.id), by simp [enc1, encB]⟩
theorem enc1_pq (x : Sub) (i : Nat) : encA x ++ (x.queue.take i).map (q1 x.id) <+: enc1 x := ⟨(x.queue.drop i).map (q1 x.id) ++ [s1 x] ++ want1 x ++ x.queue.flatMap (x1 x.id), by
  have : x.queue.map (q1 x.id) = (x.queue.take i).map (q1 x.id) ++ (x.queue.drop i).map (q1 x.id) := by rw [← List.map_append, List.take_append_drop]
  simp only [enc1, encB, this, List.append_assoc]⟩
theorem enc1_ps (x : Sub) : encB x <+: enc1 x := ⟨want1 x ++ x.queue.flatMap (x1 x.id), by simp [enc1]⟩
theorem enc1_pw (x : Sub) : encB x ++ want1 x <+: enc1 x := ⟨x.queue.flatMap (x1 x.id), rfl⟩
theorem enc1_px (x : Sub) (i : Nat) : encB x ++ want1 x ++ (x.queue.take i).flatMap (x1 x.id) <+: enc1 x := ⟨(x.queue.drop i).flatMap (x1 x.id), by
  have : x.queue.flatMap (x1 x.id) = (x.queue.take i).flatMap (x1 x.id) ++ (x.queue.drop i).flatMap (x1 x.id) := by rw [← List.flatMap_append, List.take_append_drop]
  simp only [enc1, this, List.append_assoc]⟩
theorem num_le (n : Int) : (num n).length ≤ 10 := by have := num_len n; omega
theorem rows1_iter (w0 : Base) (hL : Laid w0) (x : Sub) (hx : Fits x) : IterW Tryz.prog w0 76 [] [.vp (eSub x)] ((enc1 x).map fun r => [eRow r]) := ⟨by
  intro l F FO I D σ hI hD hIF hDF hr h0
  obtain ⟨hs1, hs2, hs3, hs4⟩ := And.intro hx.name (And.intro hx.topic (And.intro hx.want hx.note))
  have hna := hx.nacks
  have hnq := hx.nqueue
  show CallW Tryz.prog w0 76 [.fn (.yield l) [] [], .vp (eSub x)] σ _
  refine CallW.x (B := []) Ty.tok Ty.mixed Tryz.func76 rfl Tryz.ntmps76 rfl (by simp) (by decide +kernel) (.nil σ) ?_; (conv => whnf); refine SBox.f ?_; (conv => whnf); intro bo hbo; (conv => whnf); refine SStore.on 0 rfl ?_; (conv => whnf)
  have hF : bo ∉ F := fun h => (hIF _ _ h0).1 bo h hbo
  have hrun : RunAt σ F FO I D bo [] ((σ.setBox bo [.bool false]).setBox bo [.bool true]) := by
    rw [setBox_setBox]
    exact ⟨kp_set (.refl _ _ _) hbo, true, setBox_same, .inl ⟨rfl, (hI 0).box _ _ _ hbo h0⟩⟩
  have step := fun acc s h t seq ps tk h1 h2 h3 hp => lay1_step (acc := acc) (s := s) w0 hL x l hI hD hr hbo hF h t seq ps tk h1 h2 h3 hp
  have hfr := fun acc s (h : RunAt σ F FO I D bo acc s) c (hc : s.box c = none) => h.fresh hIF hDF hc
  generalize ((σ.setBox bo [.bool false]).setBox bo [.bool true]) = s0 at hrun ⊢
  refine SLoop.by Ty.mixed (fun i : Nat => x.acks.length - i) (fun i => [(1, .vp (eSub x)), (4, .fn (.func 77) [] [.ptr bo 0, .vp (.fn (.yield l) [] []), .vp (eSub x)]), (13, eInts x.acks), (14, .int .i64 x.acks.length), (15, .int .i64 i)]) (fun _ => []) (fun i s => i ≤ x.acks.length ∧ RunAt σ F FO I D bo ((x.acks.take i).map (ack1 x.id)) s) 0 ⟨?_, .none _, Nat.zero_le _, hrun⟩ ?_
  · show xWeak [(1, .vp (eSub x)), (4, .fn (.func 77) [] [.ptr bo 0, .vp (.fn (.yield l) [] []), .vp (eSub x)]), (13, eInts x.acks), (14, .int .i64 x.acks.length), (15, .int .i64 (0 : Nat))] _
    rw [List.length_map]
    repeat (first | exact trivial | refine ⟨by first | trivial | exact Weak.refl _ | exact Weak.tok _ _ _ | exact Weak.of_eq (congrArg (AV.int _) (by omega)) | exact Weak.of_eq (congrArg AV.bool (by fail)) | exact Weak.nils _ _ (.inr rfl), ?_⟩)
  · rintro i s ⟨hi, hrun⟩
    (conv => whnf)
    skip
    (refine SIf.x Ty.mixed (fun hc => ?_) (fun hc => ?_) <;> (conv => whnf))
    · have hlt : i < x.acks.length := by simp at hc; omega
      have ga : x.acks[i]? = some x.acks[i] := by simp [hlt]
      have hd := map_take_snoc (ack1 x.id) ga
      have hp := enc1_pa x (i + 1)
      generalize x.acks[i] = n at ga hd
      rw [hd] at hp
      refine ⟨_, ⟨by first | omega | (simp only [List.length_cons, List.length_append, List.length_nil, List.length_map, length_aBytes, List.length_replicate, List.length_range]; omega) | fail, by first | assumption | exact get_map (by assumption) | exact get_bytes (by assumption) | fail⟩, ?_⟩
      (conv => whnf); refine SCall.w (CallW.weaken (step _ _ hrun 97 n [] .no (by simp) (by simp [formB]) (by simp) hp) (.cons (.refl _) (.cons (.refl _) (.cons (.nils 1 .no (.inl rfl)) (WeakL.refl _))))) rfl ?_; rintro r s' ⟨rfl, hrun'⟩ hB; refine ⟨_, .nil _, ?_⟩; clear hB; (conv => whnf); refine ⟨_, IntWalk.i64_in _ (by omega), ?_⟩; (conv => whnf)
      exact ⟨i + 1, by omega, by repeat (first | exact trivial | refine ⟨by first | trivial | exact Weak.refl _ | exact Weak.tok _ _ _ | exact Weak.of_eq (congrArg (AV.int _) (by omega)) | exact Weak.of_eq (congrArg AV.bool (by fail)) | exact Weak.nils _ _ (.inr rfl), ?_⟩), .none _, hlt, by rw [hd]; exact hrun'⟩
    · have hge : i = x.acks.length := by simp at hc; omega
      subst hge
      rw [List.take_length] at hrun
      clear hc hi; (conv => whnf)
      skip
      refine SIf.meet Ty.mixed (fun _ : Unit => [(1, .vp (eSub x)), (4, .fn (.func 77) [] [.ptr bo 0, .vp (.fn (.yield l) [] []), .vp (eSub x)])]) (fun _ => []) (fun _ s => RunAt σ F FO I D bo (encA x) s) ?_ ?_ ?_
      · intro hc
        have hne : x.note ≠ [] := by rintro e; simp [e] at hc
        have hp := enc1_pn x
        have he : encA x = x.acks.map (ack1 x.id) ++ [⟨rkey 1 110 x.id 0, formB [.s x.note]⟩] := by simp [encA, note1, hne, formB, Part.b]
        rw [he] at hp ⊢
        (conv => whnf); refine SCall.w (step _ _ hrun 110 0 [.s x.note] .full (by simp; omega) (by have := num_le x.note.length; simp [formB, Part.b, txt]; omega) (by simp) hp) rfl ?_; rintro r s' ⟨rfl, hrun'⟩ hB; refine ⟨_, .nil _, ?_⟩; clear hB; (conv => whnf)
        exact ⟨(), by repeat (first | exact trivial | refine ⟨by first | trivial | exact Weak.refl _ | exact Weak.tok _ _ _ | exact Weak.of_eq (congrArg (AV.int _) (by omega)) | exact Weak.of_eq (congrArg AV.bool (by fail)) | exact Weak.nils _ _ (.inr rfl), ?_⟩), .none _, hrun'⟩
      · intro hc
        have hne : x.note = [] := by simpa using hc
        have he : encA x = x.acks.map (ack1 x.id) := by simp [encA, note1, hne]
        rw [he]
        (conv => whnf)
        exact ⟨(), by repeat (first | exact trivial | refine ⟨by first | trivial | exact Weak.refl _ | exact Weak.tok _ _ _ | exact Weak.of_eq (congrArg (AV.int _) (by omega)) | exact Weak.of_eq (congrArg AV.bool (by fail)) | exact Weak.nils _ _ (.inr rfl), ?_⟩), .none _, hrun⟩
      clear hrun s; rintro _ s hrun; (conv => whnf)
      skip
      refine SLoop.by Ty.mixed (fun i : Nat => x.queue.length - i) (fun i => [(1, .vp (eSub x)), (4, .fn (.func 77) [] [.ptr bo 0, .vp (.fn (.yield l) [] []), .vp (eSub x)]), (33, eMsgs x.queue), (34, .int .i64 x.queue.length), (35, .int .i64 i)]) (fun _ => []) (fun i s => i ≤ x.queue.length ∧ RunAt σ F FO I D bo (encA x ++ (x.queue.take i).map (q1 x.id)) s) 0 ⟨?_, .none _, Nat.zero_le _, by rw [List.take_zero, List.map_nil, List.append_nil]; exact hrun⟩ ?_
      · show xWeak [(1, .vp (eSub x)), (4, .fn (.func 77) [] [.ptr bo 0, .vp (.fn (.yield l) [] []), .vp (eSub x)]), (33, eMsgs x.queue), (34, .int .i64 x.queue.length), (35, .int .i64 (0 : Nat))] _
        rw [List.length_map]
        repeat (first | exact trivial | refine ⟨by first | trivial | exact Weak.refl _ | exact Weak.tok _ _ _ | exact Weak.of_eq (congrArg (AV.int _) (by omega)) | exact Weak.of_eq (congrArg AV.bool (by fail)) | exact Weak.nils _ _ (.inr rfl), ?_⟩)
      · clear hrun s
        rintro i s ⟨hi, hrun⟩; (conv => whnf)
        skip
        (refine SIf.x Ty.mixed (fun hc => ?_) (fun hc => ?_) <;> (conv => whnf))
        · have hlt : i < x.queue.length := by simp at hc; omega
          have ga : x.queue[i]? = some x.queue[i] := by simp [hlt]
          have hd := map_take_snoc (q1 x.id) ga
          have hp := enc1_pq x (i + 1)
          have hml := hx.queue _ (List.getElem_mem hlt)
          generalize x.queue[i] = m at ga hd hml
          rw [hd, ← List.append_assoc] at hp
          have hgm : (x.queue.map eMsg)[i]? = some (eMsg m) := by rw [List.getElem?_map, ga]; rfl
          refine ⟨_, ⟨by first | omega | (simp only [List.length_cons, List.length_append, List.length_nil, List.length_map, length_aBytes, List.length_replicate, List.length_range]; omega) | fail, by exact hgm⟩, ?_⟩
          (conv => whnf); intro b8 hb8; (conv => whnf); refine SStore.on 0 rfl ?_; (conv => whnf); refine SReg.fz 8 hb8 rfl rfl ?_; (conv => whnf); refine SReg.d [0, 1, 2, 3, 4, 5, 6, 7, 8, 9, 10, 11, 12, 13, 14, 15, 16, 17, 18, 19, 20] [0, 0, 0, 0, 0, 0, 0, 0, 0, 0, 0, 0, 0, 0, 0, 0, 0, 0, 0, 0, 2] (by decide +kernel) ?_; (conv => whnf); (conv => whnf); refine SCall.p (by exact flag1_any w0 _) ?_; (conv => whnf)
          refine SCall.w (step _ _ hrun 113 m.seq [.s m.body, .s m.attr, .n m.tries, .n m.until_, .n (if m.dead = true then 1 else 0)] .full (by simp; omega) (by have := num_le m.body.length; have := num_le m.attr.length; have := num_le m.tries; have := num_le m.until_; have := num_le (if m.dead = true then 1 else 0); simp [formB, Part.b, txt]; omega) (by simp) (by simpa [formB, Part.b, q1, qB, deadN] using hp)) rfl ?_
          rintro r s' ⟨rfl, hrun'⟩ hB; refine ⟨_, .nil _, ?_⟩; clear hB; (conv => whnf); refine ⟨_, IntWalk.i64_in _ (by omega), ?_⟩; (conv => whnf)
          refine ⟨i + 1, by omega, by repeat (first | exact trivial | refine ⟨by first | trivial | exact Weak.refl _ | exact Weak.tok _ _ _ | exact Weak.of_eq (congrArg (AV.int _) (by omega)) | exact Weak.of_eq (congrArg AV.bool (by fail)) | exact Weak.nils _ _ (.inr rfl), ?_⟩), .none _, hlt, ?_⟩
          rw [hd, ← List.append_assoc]
          simpa [formB, Part.b, q1, qB, deadN] using hrun'
        · have hge : i = x.queue.length := by simp at hc; omega
          subst hge
          rw [List.take_length] at hrun
          clear hc hi
          have hp := enc1_ps x
          have he : encB x = encA x ++ x.queue.map (q1 x.id) ++ [⟨rkey 1 115 x.id 0, formB [.s x.name, .s x.topic, .n x.lease, .n x.most, .n x.floor]⟩] := by simp [encB, s1, sB, formB, Part.b]
          rw [he] at hp
          refine SCall.w (step _ _ hrun 115 0 [.s x.name, .s x.topic, .n x.lease, .n x.most, .n x.floor] .full (by simp; omega) (by have := num_le x.name.length; have := num_le x.topic.length; have := num_le x.lease; have := num_le x.most; have := num_le x.floor; simp [formB, Part.b, txt]; omega) (by simp) hp) rfl ?_; rintro r s' ⟨rfl, hrun'⟩ hB; refine ⟨_, .nil _, ?_⟩; clear hB; (conv => whnf)
          rw [← he] at hrun'
          clear hp he hrun
          refine SIf.meet Ty.mixed (fun _ : Unit => [(1, .vp (eSub x)), (4, .fn (.func 77) [] [.ptr bo 0, .vp (.fn (.yield l) [] []), .vp (eSub x)])]) (fun _ => []) (fun _ s => RunAt σ F FO I D bo (encB x ++ want1 x) s) ?_ ?_ ?_
          · intro hc
            have hne : x.want ≠ [] := by rintro e; simp [e] at hc
            have hp := enc1_pw x
            have he : want1 x = [⟨rkey 1 119 x.id 0, formB [.s x.want]⟩] := by simp [want1, hne, formB, Part.b]
            rw [he] at hp ⊢
            (conv => whnf); refine SCall.w (step _ _ hrun' 119 0 [.s x.want] .full (by simp; omega) (by have := num_le x.want.length; simp [formB, Part.b, txt]; omega) (by simp) hp) rfl ?_; rintro r s' ⟨rfl, hrun2⟩ hB; refine ⟨_, .nil _, ?_⟩; clear hB; (conv => whnf)
            exact ⟨(), by repeat (first | exact trivial | refine ⟨by first | trivial | exact Weak.refl _ | exact Weak.tok _ _ _ | exact Weak.of_eq (congrArg (AV.int _) (by omega)) | exact Weak.of_eq (congrArg AV.bool (by fail)) | exact Weak.nils _ _ (.inr rfl), ?_⟩), .none _, hrun2⟩
          · intro hc
            have hne : x.want = [] := by simpa using hc
            have he : want1 x = [] := by simp [want1, hne]
            rw [he, List.append_nil]
            (conv => whnf)
            exact ⟨(), by repeat (first | exact trivial | refine ⟨by first | trivial | exact Weak.refl _ | exact Weak.tok _ _ _ | exact Weak.of_eq (congrArg (AV.int _) (by omega)) | exact Weak.of_eq (congrArg AV.bool (by fail)) | exact Weak.nils _ _ (.inr rfl), ?_⟩), .none _, hrun'⟩
          clear hrun' s' s; rintro _ s hrun; (conv => whnf)
          skip
          refine SLoop.by Ty.mixed (fun i : Nat => x.queue.length - i) (fun i => [(1, .vp (eSub x)), (4, .fn (.func 77) [] [.ptr bo 0, .vp (.fn (.yield l) [] []), .vp (eSub x)]), (89, eMsgs x.queue), (90, .int .i64 x.queue.length), (91, .int .i64 i)]) (fun _ => []) (fun i s => i ≤ x.queue.length ∧ RunAt σ F FO I D bo (encB x ++ want1 x ++ (x.queue.take i).flatMap (x1 x.id)) s) 0 ⟨?_, .none _, Nat.zero_le _, by rw [List.take_zero, List.flatMap_nil, List.append_nil]; exact hrun⟩ ?_
          · show xWeak [(1, .vp (eSub x)), (4, .fn (.func 77) [] [.ptr bo 0, .vp (.fn (.yield l) [] []), .vp (eSub x)]), (89, eMsgs x.queue), (90, .int .i64 x.queue.length), (91, .int .i64 (0 : Nat))] _
            rw [List.length_map]
            repeat (first | exact trivial | refine ⟨by first | trivial | exact Weak.refl _ | exact Weak.tok _ _ _ | exact Weak.of_eq (congrArg (AV.int _) (by omega)) | exact Weak.of_eq (congrArg AV.bool (by fail)) | exact Weak.nils _ _ (.inr rfl), ?_⟩)
          · clear hrun s
            rintro i s ⟨hi, hrun⟩; (conv => whnf)
            skip
            (refine SIf.x Ty.mixed (fun hc => ?_) (fun hc => ?_) <;> (conv => whnf))
            · have hlt : i < x.queue.length := by simp at hc; omega
              have ga : x.queue[i]? = some x.queue[i] := by simp [hlt]
              have hd := flat_take_snoc (x1 x.id) ga
              have hp := enc1_px x (i + 1)
              generalize x.queue[i] = m at ga hd
              rw [hd, ← List.append_assoc] at hp
              have hgm : (x.queue.map eMsg)[i]? = some (eMsg m) := by rw [List.getElem?_map, ga]; rfl
              refine ⟨_, ⟨by first | omega | (simp only [List.length_cons, List.length_append, List.length_nil, List.length_map, length_aBytes, List.length_replicate, List.length_range]; omega) | fail, by exact hgm⟩, ?_⟩
              (conv => whnf); intro b10 hb10; (conv => whnf); refine SStore.on 0 rfl ?_; (conv => whnf); refine SLoad.on 0 rfl ?_; (conv => whnf)
              (refine SCond.mk (fun hc => ?_) (fun hc => ?_) <;> (conv => whnf))
              · have hx1 : x1 x.id m = [⟨rkey 1 120 x.id m.seq, formB [.n m.prio, .n (deathN m)]⟩] := by
                  have h : m.prio ≠ 0 ∨ m.dead = true := by simp_all
                  simp [x1, h, xB, formB, Part.b]
                rw [hx1] at hp
                refine SCond.y (by assumption) ?_; (conv => whnf); refine SPick.y (by assumption) ?_; (conv => whnf); refine SIf.y Ty.mixed (by exact rfl) ?_; (conv => whnf); refine SReg.fz 10 hb10 rfl rfl ?_; (conv => whnf); refine SReg.d [0, 1, 2, 3, 4, 5, 6, 7, 8, 9, 10] [0, 0, 0, 0, 0, 0, 0, 0, 0, 0, 2] (by decide +kernel) ?_; (conv => whnf); (conv => whnf); refine SCall.p (by exact death1_any w0 m) ?_; (conv => whnf)
                refine SCall.w (step _ _ hrun 120 m.seq [.n m.prio, .n (deathN m)] .full (by simp) (by have := num_le m.prio; have := num_le (deathN m); simp [formB, Part.b]; omega) (by simp) hp) rfl ?_; rintro r s' ⟨rfl, hrun'⟩ hB; refine ⟨_, .nil _, ?_⟩; clear hB; (conv => whnf); refine ⟨_, IntWalk.i64_in _ (by omega), ?_⟩; (conv => whnf)
                exact ⟨i + 1, by omega, by repeat (first | exact trivial | refine ⟨by first | trivial | exact Weak.refl _ | exact Weak.tok _ _ _ | exact Weak.of_eq (congrArg (AV.int _) (by omega)) | exact Weak.of_eq (congrArg AV.bool (by fail)) | exact Weak.nils _ _ (.inr rfl), ?_⟩), .none _, hlt, by rw [hd, ← List.append_assoc, hx1]; exact hrun'⟩
              · refine SCond.n (by assumption) ?_
                (conv => whnf); refine SLoad.on 0 rfl ?_; (conv => whnf); refine SPick.n (by assumption) ?_; (conv => whnf)
                (refine SIf.x Ty.mixed (fun hc => ?_) (fun hc => ?_) <;> (conv => whnf))
                · have hx1 : x1 x.id m = [⟨rkey 1 120 x.id m.seq, formB [.n m.prio, .n (deathN m)]⟩] := by
                    have h : m.prio ≠ 0 ∨ m.dead = true := by simp_all
                    simp [x1, h, xB, formB, Part.b]
                  rw [hx1] at hp
                  refine SReg.fz 10 hb10 rfl rfl ?_; (conv => whnf); refine SReg.d [0, 1, 2, 3, 4, 5, 6, 7, 8, 9, 10] [0, 0, 0, 0, 0, 0, 0, 0, 0, 0, 2] (by decide +kernel) ?_; (conv => whnf); (conv => whnf); refine SCall.p (by exact death1_any w0 m) ?_; (conv => whnf)
                  refine SCall.w (step _ _ hrun 120 m.seq [.n m.prio, .n (deathN m)] .full (by simp) (by have := num_le m.prio; have := num_le (deathN m); simp [formB, Part.b]; omega) (by simp) hp) rfl ?_; rintro r s' ⟨rfl, hrun'⟩ hB; refine ⟨_, .nil _, ?_⟩; clear hB; (conv => whnf); refine ⟨_, IntWalk.i64_in _ (by omega), ?_⟩; (conv => whnf)
                  exact ⟨i + 1, by omega, by repeat (first | exact trivial | refine ⟨by first | trivial | exact Weak.refl _ | exact Weak.tok _ _ _ | exact Weak.of_eq (congrArg (AV.int _) (by omega)) | exact Weak.of_eq (congrArg AV.bool (by fail)) | exact Weak.nils _ _ (.inr rfl), ?_⟩), .none _, hlt, by rw [hd, ← List.append_assoc, hx1]; exact hrun'⟩
                · have hx1 : x1 x.id m = [] := by
                    have h : ¬ (m.prio ≠ 0 ∨ m.dead = true) := by simp_all
                    simp only [x1, if_neg h]
                  refine ⟨_, IntWalk.i64_in _ (by omega), ?_⟩; (conv => whnf)
                  refine ⟨i + 1, by omega, by repeat (first | exact trivial | refine ⟨by first | trivial | exact Weak.refl _ | exact Weak.tok _ _ _ | exact Weak.of_eq (congrArg (AV.int _) (by omega)) | exact Weak.of_eq (congrArg AV.bool (by fail)) | exact Weak.nils _ _ (.inr rfl), ?_⟩), .none _, hlt, ?_⟩
                  rw [hd, hx1, List.append_nil, setBox_setBox]
                  exact hrun.new hI hD _ (hfr _ _ hrun _ hb10)
            · have hge : i = x.queue.length := by simp at hc; omega
              subst hge
              rw [List.take_length] at hrun
              (conv => whnf)
              skip
              refine .w ⟨rfl, hrun.k, ?_⟩
              obtain ⟨b, _, hq⟩ := hrun.b
              rw [List.length_map]
              exact hq.imp (fun h => h.2) fun h => h.2⟩
end Go.Proofs.YtkbmkhhcppfcnaaGreatDoor
end
section
set_option linter.unusedVariables false
set_option linter.unusedSimpArgs false
set_option maxRecDepth 100000
set_option maxHeartbeats 1000000
namespace Go.Proofs.YtkbmkhhcppfcnaaGreatDoor
open Go.Al Go.RowKit
theorem appendRows_any (w0 : Base) (x : Sub) (rows : List Row) (hit : IterW Tryz.prog w0 76 [] [.vp (eSub x)] (rows.map fun r => [eRow r])) (hn : rows.length ≤ 10000000) (σ : St) :
    CallW Tryz.prog w0 75 [.nils, .fn (.func 76) [] [.vp (eSub x)]] σ (fun r s => ∃ tk, r = .slc 2 (rows.map eRow) tk ∧ Moves σ .full s tk) := by
  refine CallW.weaken (args' := [.slc 2 [] .full, .fn (.func 76) [] [.vp (eSub x)]]) ?_ (.cons (.nils 2 .full (.inr rfl)) (WeakL.refl _)); refine CallW.x (B := []) Ty.tok Ty.mixed Tryz.func75 rfl Tryz.ntmps75 rfl (by simp) (by decide +kernel) (.nil σ) ?_; (conv => whnf)
  refine SBox.b rfl ?_; (conv => whnf); intro b2 hb2; (conv => whnf)
  refine Stop.range Ty.tok Ty.mixed (f := 76) (first := []) (cap := [.vp (eSub x)]) rfl [7] rfl (by simp) (by decide +kernel) (by decide +kernel) (by simp) hit [b2] [] (fun (i, _) => i) (fun ((i, tk) : Nat × Tok) => [(b2, [.slc 2 ((rows.take i).map eRow) tk])]) (fun (i, tk) s => i ≤ rows.length ∧ MovesU σ .full s tk) (0, .full) (fun _ : Empty => .ret) (fun _ => []) (fun _ _ => False)
    (fun a => (Free.pure _).and (.movesU (le_new (.refl _) hb2))) (fun _ => .pure _) (by simp) (fun b => b.elim) (by simp) (fun b => b.elim) (by simp) (by simp) (fun b => b.elim) rfl (.refl _) ⟨Nat.zero_le _, (Moves.full σ).new hb2 |>.u⟩ ?_ ?_ (fun b => b.elim)
  · rintro ⟨i, tk⟩ s xs ⟨hi, hm⟩ hK hx
    obtain ⟨r, hr, rfl⟩ : ∃ r, rows[i]? = some r ∧ xs = [eRow r] := by
      rw [List.getElem?_map] at hx
      obtain ⟨r, h1, h2⟩ := Option.map_eq_some_iff.1 hx
      exact ⟨r, h1, h2.symm⟩
    have hd := map_take_snoc eRow hr
    have hil : i < rows.length := by obtain ⟨h, _⟩ := List.getElem?_eq_some_iff.1 hr; exact h
    (conv => whnf); intro b5 hb5; (conv => whnf); refine SStore.on 0 rfl ?_; (conv => whnf)
    refine ⟨rfl, .le (le_new2 (.refl _) hb5), fun l q hl => ?_⟩
    have htk := List.length_take_le i rows
    (conv => whnf); refine SLoad.on 1 rfl ?_; (conv => whnf); refine SLoad.on 0 rfl ?_; (conv => whnf)
    refine SApp.c rfl rfl (by exact Moves.refl hm.room) (by simp only [length_aBytes, List.length_append, List.length_cons, List.length_nil, List.length_map, List.length_range]; omega) fun tk1 σ1 hm' => ?_
    (conv => whnf); refine SStore.on 1 rfl ?_; (conv => whnf)
    have hmu : MovesU σ .full (((s.setBox b5 [AV.str [], AV.nils]).setBox b5 [AV.str r.key, AV.slc 1 (aBytes r.val) Tok.no]).setObj l q) tk := by
      have hb5' : σ.box b5 = none := by
        cases e : σ.box b5 with
        | none => rfl
        | some cs => rw [hm.box _ _ e] at hb5; cases hb5
      exact (Free.movesU (.refl σ)).obj _ _ _ hl ((Free.movesU (.refl σ)).box _ _ _ hb5' ((Free.movesU (.refl σ)).box _ _ _ hb5' hm))
    refine ⟨⟨fun j cs hj e => ?_, fun j o _ e => ?_⟩, (i + 1, tk1), rfl, ?_, hil, ?_⟩
    · rw [setBox_ne (by simpa using hj)]; exact hm'.box _ _ e
    · show σ1.obj j = _
      rw [hm'.obj]; exact e
    · show BSub [(b2, [.slc 2 ((rows.take (i + 1)).map eRow) tk1])] _
      rw [hd]
      exact .drop (.refl _)
    · exact (Free.movesU (.refl σ)).box _ _ _ hb2 (hmu.trans hm'.u)
  · rintro ⟨i, tk⟩ s hi ⟨_, hm⟩ hK
    have hi' : i = rows.length := by simpa using hi
    subst hi'
    (conv => whnf); refine SLoad.on 0 rfl ?_; (conv => whnf)
    refine ⟨fun hB => ⟨_, _, .refl _, hm.back.2, tk, ?_, hm.back.1⟩⟩
    rw [List.take_length]
theorem enc1_len (x : Sub) (hx : Fits x) : (enc1 x).length ≤ 400000 := by
  have h1 := note1_len x
  have h2 := want1_len x
  have h3 := x1s_len x.id x.queue
  have h4 := hx.nacks
  have h5 := hx.nqueue
  simp only [enc1, encB, encA, List.length_append, List.length_map, List.length_cons, List.length_nil]; omega
theorem collectRows_any (w0 : Base) (x : Sub) (rows : List Row) (hit : IterW Tryz.prog w0 76 [] [.vp (eSub x)] (rows.map fun r => [eRow r])) (hn : rows.length ≤ 10000000) :
    CallP Tryz.prog w0 47 [.fn (.func 76) [] [.vp (eSub x)]] (eRows rows) := by
  refine CallP.x Ty.tok Ty.mixed Tryz.func47 rfl Tryz.ntmps47 rfl (by simp) (by decide +kernel) fun σ => ?_
  (conv => whnf)
  refine SCall.r (appendRows_any w0 x rows hit hn _) rfl (fun _ _ h => h) fun tk1 σ1 hm => ?_
  (conv => whnf); exact .v hm.le (.tok _ _ _)
theorem rowsF_any (w0 : Base) (x : Sub) : CallP Tryz.prog w0 48 [eSub x] (.fn (.func 76) [] [.vp (eSub x)]) := by
  refine CallP.x Ty.tok Ty.mixed Tryz.func48 rfl Tryz.ntmps48 rfl (by simp) (by decide +kernel) fun σ => ?_
  (conv => whnf); refine SBox.f ?_; (conv => whnf); exact .w ⟨rfl, rfl⟩
theorem enc1_p (w0 : Base) (hL : Laid w0) (x : Sub) (hx : Fits x) : CallP Tryz.prog w0 13 [eSub x] (eRows (enc1 x)) := by
  refine CallP.x Ty.tok Ty.mixed Tryz.func13 rfl Tryz.ntmps13 rfl (by simp) (by decide +kernel) fun σ => ?_
  (conv => whnf); refine SBox.f ?_; (conv => whnf); refine SCall.p (by exact rowsF_any w0 x) ?_; (conv => whnf); refine SCall.p (by exact collectRows_any w0 x (enc1 x) (rows1_iter w0 hL x hx) (by have := enc1_len x hx; omega)) ?_; (conv => whnf); exact .w ⟨rfl, rfl⟩
end Go.Proofs.YtkbmkhhcppfcnaaGreatDoor
end
section
set_option linter.unusedVariables false
namespace Go.Proofs.YtkbmkhhcppfcnaaGreatDoor
open Go.Al
inductive Fm where
  | s (l : List UInt8)
  | n (k : Int)
def eFm : Fm → AV
  | .s l => .ifc 9 (.str l)
  | .n k => .ifc 3 (.int .i64 k)
def f1 : Fm → List UInt8
  | .s l => txt l
  | .n k => num k
def fB : List Fm → List UInt8
  | [] => []
  | [x] => f1 x
  | x :: y :: l => f1 x ++ fB (y :: l)
theorem fB_eq : ∀ l : List Fm, fB l = l.flatMap f1
  | [] => rfl
  | [x] => by simp [fB]
  | x :: y :: l => by rw [fB, fB_eq (y :: l)]; rfl
def FmOk (l : List Fm) : Prop := l.length ≤ 1000 ∧ ∀ x ∈ l, (f1 x).length ≤ 2000
theorem f1_len_s {s : List UInt8} (h : s.length ≤ 1000) : (f1 (.s s)).length ≤ 2000 := by
  have := num_len s.length
  simp [f1, txt]; omega
theorem f1_len_n (k : Int) : (f1 (.n k)).length ≤ 2000 := by
  have := num_len k
  simp only [f1]; omega
def FmS : List Fm → Prop
  | [] => True
  | .s v :: l => v.length ≤ 1000 ∧ FmS l
  | .n _ :: l => FmS l
theorem FmS.ok : ∀ {l : List Fm}, FmS l → ∀ x ∈ l, (f1 x).length ≤ 2000
  | [], _, x, hx => by simp at hx
  | .s v :: l, h, x, hx => by
    rcases List.mem_cons.1 hx with rfl | hx
    · exact f1_len_s h.1
    · exact FmS.ok h.2 x hx
  | .n k :: l, h, x, hx => by
    rcases List.mem_cons.1 hx with rfl | hx
    · exact f1_len_n k
    · exact FmS.ok (l := l) h x hx
theorem fB_len : ∀ {l : List Fm}, (∀ x ∈ l, (f1 x).length ≤ 2000) → (fB l).length ≤ 2000 * l.length
  | [], _ => by simp [fB]
  | x :: l, h => by
    have h1 := h x (by simp)
    have h2 := fB_len (l := l) fun y hy => h y (by simp [hy])
    rw [fB_eq] at h2 ⊢
    simp only [List.flatMap_cons, List.length_append, List.length_cons] at h2 ⊢
    omega
theorem num_pos (k : Int) : ∃ c r, num k = c :: r := by
  have : num k ≠ [] := by
    unfold num
    by_cases h : clampN k < 128
    · rw [numB_small h]; simp
    · rw [numB_big h]; simp
  cases h : num k with
  | nil => exact absurd h this
  | cons c r => exact ⟨c, r, rfl⟩
theorem f1_pos (x : Fm) : ∃ c r, f1 x = c :: r := by
  cases x with
  | s l => obtain ⟨c, r, h⟩ := num_pos l.length; exact ⟨c, r ++ l, by simp [f1, txt, h]⟩
  | n k => exact num_pos k
end Go.Proofs.YtkbmkhhcppfcnaaGreatDoor
end
section
set_option linter.unusedVariables false
set_option linter.unusedSimpArgs false
set_option maxRecDepth 100000
namespace Go.Proofs.YtkbmkhhcppfcnaaGreatDoor
open Go.Al Go.RowKit
theorem drop_get {v : List UInt8} {a : Nat} {c : UInt8} {r : List UInt8} (h : v.drop a = c :: r) : a < v.length ∧ v.getD a 0 = c ∧ v.drop (a + 1) = r := by
  have hl : a < v.length := by
    by_cases hl : a < v.length
    · exact hl
    · rw [List.drop_of_length_le (by omega)] at h; cases h
  rw [List.drop_eq_getElem_cons hl] at h
  injection h with h1 h2
  exact ⟨hl, by simp [List.getD, hl, h1], h2⟩
theorem byte_val {n : Nat} (h : n < 256) : (UInt8.ofNat n).toNat = n := by simp; omega
theorem gn_numB : ∀ (q k i m : Nat) (v : List UInt8) (a : Nat) (rest : List UInt8), v.drop (a + i) = numB q ++ rest → q < 128 ^ (k + 1) → (0 < i → q ≠ 0) → m + q * 2 ^ (7 * i) ≤ 9007199254740992 →
    gn v a (k + 1) i m = (m + q * 2 ^ (7 * i), a + i + (numB q).length, 0) ∧ v.drop (a + i + (numB q).length) = rest := by
  intro q
  induction q using Nat.strongRecOn with
  | _ q ih =>
    intro k i m v a rest hd hq hi hm
    by_cases h : q < 128
    · rw [numB_small h] at hd ⊢
      obtain ⟨hl, hc, hr⟩ := drop_get hd
      refine ⟨?_, hr⟩
      have hv : (UInt8.ofNat q).toNat = q := byte_val (by omega)
      rw [gn, if_neg (by omega)]
      dsimp only
      rw [hc, hv, Nat.mod_eq_of_lt h, if_pos h, if_neg (by omega)]
      rfl
    · rw [numB_big h] at hd ⊢
      obtain ⟨hl, hc, hr⟩ := drop_get hd
      have hv : (UInt8.ofNat (128 + q % 128)).toNat = 128 + q % 128 := byte_val (by omega)
      have hq0 : q / 128 ≠ 0 := by omega
      have hk : 128 ^ (k + 1) = 128 * 128 ^ k := by rw [Nat.pow_succ, Nat.mul_comm]
      cases k with
      | zero => exact absurd hq (by simp; omega)
      | succ k =>
      have e1 : (2 : Nat) ^ (7 * (i + 1)) = 128 * 2 ^ (7 * i) := by rw [show 7 * (i + 1) = 7 * i + 7 by omega, Nat.pow_add, Nat.mul_comm]
      have e2 : q % 128 * 2 ^ (7 * i) + q / 128 * 2 ^ (7 * (i + 1)) = q * 2 ^ (7 * i) := by
        rw [e1, ← Nat.mul_assoc, ← Nat.add_mul]; congr 1; omega
      obtain ⟨g1, g2⟩ := ih (q / 128) (by omega) k (i + 1) (m + q % 128 * 2 ^ (7 * i)) v a rest (by rw [show a + (i + 1) = a + i + 1 by omega]; exact hr) (by rw [hk] at hq; omega) (fun _ => hq0) (by omega)
      refine ⟨?_, ?_⟩
      · rw [gn, if_neg (by omega)]
        dsimp only
        rw [hc, hv, if_neg (by omega), show (128 + q % 128) % 128 = q % 128 by omega, g1]
        rw [List.length_cons]
        congr 1
        · omega
        · congr 1; omega
      · rw [List.length_cons, ← g2]; congr 1; omega
def At (v : List UInt8) (a : Nat) (r : List UInt8) : Prop := a ≤ v.length ∧ v.drop a = r
theorem at_start (v : List UInt8) : At v 0 v := ⟨Nat.zero_le _, rfl⟩
def n53 (n : Int) : Prop := 0 ≤ n ∧ n ≤ 9007199254740992
theorem clampN_53 {n : Int} (h : n53 n) : ((clampN n : Nat) : Int) = n := by unfold n53 at h; unfold clampN; omega
theorem at_len {v : List UInt8} {a : Nat} {x r : List UInt8} (h : At v a (x ++ r)) : a + x.length ≤ v.length := by
  have h1 := congrArg List.length h.2
  have := h.1
  simp at h1; omega
theorem getNum_at {v : List UInt8} {a : Nat} {n : Int} {r : List UInt8} (h : At v a (num n ++ r)) : getNum v a = (clampN n, a + (num n).length, 0) ∧ At v (a + (num n).length) r := by
  have hc := clampN_le n
  obtain ⟨g1, g2⟩ := gn_numB (clampN n) 7 0 0 v a r (by simpa [num] using h.2) (by omega) (fun h => absurd h (by decide)) (by simpa using hc)
  have e : num n = numB (clampN n) := rfl
  refine ⟨?_, at_len h, ?_⟩
  · rw [getNum, if_neg (by have := h.1; omega), g1, e]; simp
  · rw [e, ← g2]; simp
theorem rNum_at {v : List UInt8} {a : Nat} {n : Int} {r : List UInt8} (h : At v a (num n ++ r)) : rNum v a none = (clampN n, a + (num n).length, none) ∧ At v (a + (num n).length) r := by
  obtain ⟨g1, g2⟩ := getNum_at h
  refine ⟨?_, g2⟩
  rw [rNum, g1]; rfl
theorem getText_at {v : List UInt8} {a most : Nat} {s : List UInt8} {r : List UInt8} (h : At v a (txt s ++ r)) (hs : s.length ≤ most) (hm : most ≤ 9007199254740992) : getText v a most = (s, a + (txt s).length, 0) ∧ At v (a + (txt s).length) r := by
  rw [txt, List.append_assoc] at h
  obtain ⟨g1, g2⟩ := getNum_at h
  have hcl : clampN (s.length : Int) = s.length := by unfold clampN; omega
  have hl := at_len g2
  have hd : (v.drop (a + (num s.length).length)).take s.length = s := by rw [g2.2, List.take_left']; rfl
  have e : (txt s).length = (num s.length).length + s.length := by simp [txt]
  have hx : (v.take (a + (num s.length).length + s.length)).drop (a + (num s.length).length) = s := by
    rw [List.drop_take, show a + (num s.length).length + s.length - (a + (num s.length).length) = s.length by omega, hd]
  refine ⟨?_, by omega, ?_⟩
  · rw [getText, g1, hcl]
    dsimp only
    rw [if_neg (by simp), if_neg (by omega), if_neg (by omega), hx, e, Nat.add_assoc]
  · rw [e, ← Nat.add_assoc, ← List.drop_drop, g2.2, List.drop_left']; rfl
theorem rText_at {v : List UInt8} {a most : Nat} {s : List UInt8} {r : List UInt8} (h : At v a (txt s ++ r)) (hs : s.length ≤ most) (hm : most ≤ 9007199254740992) : rText v a none most = (s, a + (txt s).length, none) ∧ At v (a + (txt s).length) r := by
  obtain ⟨g1, g2⟩ := getText_at h hs hm
  refine ⟨?_, g2⟩
  rw [rText, g1]; rfl
end Go.Proofs.YtkbmkhhcppfcnaaGreatDoor
end
section
set_option linter.unusedVariables false
set_option linter.unusedSimpArgs false
set_option maxRecDepth 100000
set_option maxHeartbeats 400000
namespace Go.Proofs.YtkbmkhhcppfcnaaGreatDoor
open Go.Al Go.RowKit
def gL (c : List UInt8) (i : Nat) : Nat := (c.getD i 0).toNat
theorem gL_lt (c : List UInt8) (i : Nat) : gL c i < 256 := (c.getD i 0).toNat_lt
theorem g_any (w0 : Base) (c : List UInt8) (t : Tok) (i : Nat) : CallP Tryz.prog w0 36 [.slc 1 (aBytes c) t, .int .i64 i] (.int .i64 (gL c i)) := by
  refine CallP.start Tryz.func36 rfl Tryz.ntmps36 (by simp) fun σ Q hQ => ?_
  by_cases h : i < c.length
  · have ga : c[i]? = some (c.getD i 0) := by simp [h]
    have hb := gL_lt c i
    refine W.seq ?_; refine W.regionL (by decide +kernel) rfl ?_; apply r_op; exact rfl; exact rfl; apply a_assign; (conv => (lhs; whnf)); (with_reducible refine runs_done ?_); refine W.seq ?_; refine W.seq ?_; refine W.regionL (by decide +kernel) rfl ?_; apply r_op; exact rfl; exact rfl; apply a_move; (conv => (lhs; whnf)); apply r_op; exact rfl; exact rfl; apply a_move; (conv => (lhs; whnf))
    apply r_op; exact rfl; exact rfl; apply g_call; exact a_len_slc rfl; apply r_op; exact rfl; exact rfl; apply g_binOp; exact a_binI rfl rfl rfl; (with_reducible refine runs_done ?_); refine W.cond rfl (fun hc => ?_) (fun hc => ?_); refine W.seq ?_; refine W.regionL (by decide +kernel) rfl ?_; apply r_op; exact rfl; exact rfl; apply a_move; (conv => (lhs; whnf)); apply r_op; exact rfl; exact rfl
    apply a_move; (conv => (lhs; whnf)); apply r_op; exact rfl; exact rfl; apply g_indexAddr; exact a_indexAddr rfl rfl (by decide) (by omega) (by exact get_map (by assumption)); apply r_op; exact rfl; exact rfl; apply g_load; exact a_load1 rfl rfl; apply r_op; exact rfl; exact rfl; apply g_convert; exact a_convI rfl; apply r_op; exact rfl; exact rfl; apply a_assign; (conv => (lhs; whnf))
    (with_reducible refine runs_done ?_); refine W.ret ?_; show Q Exit.ret _ _; refine post_q hQ (by apply res_tmp; exact rfl; exact res_nil) (.inl rfl) (by exact .refl _) ?_; (conv => (lhs; whnf)); rotate_left; refine W.skip ?_; show W _ _ _ _ _ _ _; refine W.seq ?_; refine W.regionL (by decide +kernel) rfl ?_; apply r_op; exact rfl; exact rfl; apply a_assign; (conv => (lhs; whnf))
    (with_reducible refine runs_done ?_); refine W.ret ?_; show Q Exit.ret _ _; refine post_q hQ (by apply res_tmp; exact rfl; exact res_nil) (.inl rfl) (by exact .refl _) ?_; (conv => (lhs; whnf)); rotate_left
    · show AV.int .i64 (IntKind.i64.wrap _) = _
      rw [IntWalk.i64_in _ (by have := (c.getD i 0).toNat_lt; omega)]; rfl
    · simp [length_aBytes] at hc; omega
  · refine W.seq ?_
    refine W.regionL (by decide +kernel) rfl ?_; apply r_op; exact rfl; exact rfl; apply a_assign; (conv => (lhs; whnf)); (with_reducible refine runs_done ?_); refine W.seq ?_; refine W.seq ?_; refine W.regionL (by decide +kernel) rfl ?_; apply r_op; exact rfl; exact rfl; apply a_move; (conv => (lhs; whnf)); apply r_op; exact rfl; exact rfl; apply a_move; (conv => (lhs; whnf)); apply r_op; exact rfl
    exact rfl; apply g_call; exact a_len_slc rfl; apply r_op; exact rfl; exact rfl; apply g_binOp; exact a_binI rfl rfl rfl; (with_reducible refine runs_done ?_); refine W.cond rfl (fun hc => ?_) (fun hc => ?_); refine W.seq ?_; refine W.regionL (by decide +kernel) rfl ?_; apply r_op; exact rfl; exact rfl; apply a_move; (conv => (lhs; whnf)); apply r_op; exact rfl; exact rfl; apply a_move
    (conv => (lhs; whnf)); rotate_left; refine W.skip ?_; show W _ _ _ _ _ _ _; refine W.seq ?_; refine W.regionL (by decide +kernel) rfl ?_; apply r_op; exact rfl; exact rfl; apply a_assign; (conv => (lhs; whnf)); (with_reducible refine runs_done ?_); refine W.ret ?_; show Q Exit.ret _ _; refine post_q hQ (by apply res_tmp; exact rfl; exact res_nil) (.inl rfl) (by exact .refl _) ?_
    (conv => (lhs; whnf)); rotate_left
    · simp [length_aBytes] at hc; omega
    · have : c.getD i 0 = 0 := by simp [List.getD, List.getElem?_eq_none (Nat.le_of_not_lt h)]
      rw [gL, this]; rfl
def letter (k i : Nat) : UInt8 := UInt8.ofNat (97 + (i + k) % 26)
def textL (k most : Nat) : List UInt8 := (List.range (k % (most + 1))).map (letter k)
theorem textL_len (k most : Nat) : (textL k most).length ≤ most := by simp [textL]; have := Nat.mod_lt k (show 0 < most + 1 by omega); omega
theorem letter_eq (k i : Nat) : Al.byteOf (97 + ((Al.byteOf (((i : Int) + (k : Int)) % 26)).toNat : Int)) = letter k i := by
  have e : (((i : Int) + (k : Int)) % 26 : Int) = ((i + k) % 26 : Nat) := by omega
  rw [e, byteOf_toNat _ (by omega)]
  show Al.byteOf ((97 + (i + k) % 26 : Nat) : Int) = _
  simp only [Al.byteOf, letter]
  have : ((97 + (i + k) % 26 : Nat) : Int) % 256 = (97 + (i + k) % 26 : Nat) := by omega
  rw [this]; rfl
theorem lawtext_any (w0 : Base) (k most : Nat) (hk : k ≤ 1000000000) (hm : most ≤ 1000000000) : CallP Tryz.prog w0 35 [.int .i64 k, .int .i64 most] (.str (textL k most)) := by
  refine CallP.start Tryz.func35 rfl Tryz.ntmps35 (by simp) fun σ Q hQ => ?_
  refine W.seq ?_; refine W.regionL (by decide +kernel) rfl ?_; apply r_op; exact rfl; exact rfl; apply a_assign; (conv => (lhs; whnf)); (with_reducible refine runs_done ?_); refine W.seq ?_; refine W.regionL (by decide +kernel) rfl ?_; apply r_op; exact rfl; exact rfl; apply a_assign; (conv => (lhs; whnf)); (with_reducible refine runs_done ?_); refine W.seq ?_; refine W.seq ?_
  refine W.regionL (by decide +kernel) rfl ?_; apply r_op; exact rfl; exact rfl; apply a_assign; (conv => (lhs; whnf)); (with_reducible refine runs_done ?_); refine W.block ?_
  refine W.loop (fun n E s => ∃ i : Nat, i ≤ k % (most + 1) ∧ n = k % (most + 1) - i ∧ s = σ ∧ Has [(0, .int .i64 k), (1, .int .i64 most), (5, .str ((List.range i).map (letter k))), (6, .int .i64 i)] E) (k % (most + 1)) ⟨0, Nat.zero_le _, rfl, rfl, by exact Has.by (by repeat (first | exact trivial | refine ⟨by first | trivial | exact Weak.refl _ | exact Weak.tok _ _ _ | exact Weak.of_eq (congrArg (AV.int _) (by omega)) | exact Weak.nils _ _ (.inr rfl), ?_⟩))⟩ ?_
  rintro n E s ⟨i, hi, rfl, rfl, hE⟩; refine W.has hE ?_; clear hE
  have hlt := Nat.mod_lt k (show 0 < most + 1 by omega)
  have hmod : ((k % (most + 1) : Nat) : Int) = (k : Int) % ((most : Int) + 1) := by simp
  have hlen : ((List.range i).map (letter k)).length = i := by simp
  refine W.seq ?_; refine W.seq ?_; refine W.regionL (by decide +kernel) rfl ?_; apply r_op; exact rfl; exact rfl; apply a_move; (conv => (lhs; whnf)); apply r_op; exact rfl; exact rfl; apply a_move; (conv => (lhs; whnf)); apply r_op; exact rfl; exact rfl; apply a_move; (conv => (lhs; whnf)); apply r_op; exact rfl; exact rfl; apply g_binOp; exact a_add64 rfl rfl (by omega); apply r_op; exact rfl
  exact rfl; apply g_binOp; exact a_rem rfl rfl (by omega); apply r_op; exact rfl; exact rfl; apply g_binOp; exact a_binI rfl rfl rfl; (with_reducible refine runs_done ?_); refine W.cond rfl (fun hc => ?_) (fun hc => ?_); refine W.skip ?_; show W _ _ _ _ _ _ _; refine W.seq ?_; refine W.block ?_; refine W.regionL (by decide +kernel) rfl ?_; apply r_op; exact rfl; exact rfl; apply a_move
  (conv => (lhs; whnf)); apply r_op; exact rfl; exact rfl; apply a_move; (conv => (lhs; whnf)); apply r_op; exact rfl; exact rfl; apply a_move; (conv => (lhs; whnf)); apply r_op; exact rfl; exact rfl; apply g_binOp; exact a_add64 rfl rfl (by omega); apply r_op; exact rfl; exact rfl; apply g_binOp; exact a_rem rfl rfl (by omega); apply r_op; exact rfl; exact rfl; apply g_convert; exact a_convB rfl
  apply r_op; exact rfl; exact rfl; apply g_binOp; exact a_u8add rfl rfl; apply r_op; exact rfl; exact rfl; apply g_buildSlice; apply a_build1; (conv => (lhs; whnf)); exact rfl; exact rfl; decide; apply r_op; exact rfl; exact rfl; apply g_convert; exact a_bytesStrX rfl (by apply toB_cons; exact toB_nil); apply r_op; exact rfl; exact rfl; apply g_binOp
  exact a_addS rfl rfl (by simp only [length_aBytes, List.length_append, List.length_cons, List.length_nil, List.length_map, List.length_range]; omega); apply r_op; exact rfl; exact rfl; apply a_assign; (conv => (lhs; whnf)); (with_reducible refine runs_done ?_); refine W.regionL (by decide +kernel) rfl ?_; apply r_op; exact rfl; exact rfl; apply a_move; (conv => (lhs; whnf)); apply r_op; exact rfl
  exact rfl; apply g_binOp; exact a_add64 rfl rfl (by omega); apply r_op; exact rfl; exact rfl; apply a_assign; (conv => (lhs; whnf)); (with_reducible refine runs_done ?_); rotate_left; refine W.exit ?_; show W _ _ _ _ _ _ _; refine W.seq ?_; refine W.regionL (by decide +kernel) rfl ?_; apply r_op; exact rfl; exact rfl; apply a_move; (conv => (lhs; whnf)); apply r_op; exact rfl; exact rfl
  apply a_assign; (conv => (lhs; whnf)); (with_reducible refine runs_done ?_); refine W.ret ?_; show Q Exit.ret _ _; refine post_q hQ (by apply res_tmp; exact rfl; exact res_nil) (.inl rfl) (by exact .refl _) ?_; (conv => (lhs; whnf)); rotate_left
  · have h1 : i < k % (most + 1) := by rw [← hmod] at hc; simp only [decide_eq_true_eq] at hc; omega
    refine ⟨k % (most + 1) - (i + 1), by omega, i + 1, by omega, rfl, rfl, ?_⟩
    rw [List.range_succ, List.map_append]
    simp only [List.map_cons, List.map_nil]
    rw [← letter_eq]
    exact Has.by (by repeat (first | exact trivial | refine ⟨by first | trivial | exact Weak.refl _ | exact Weak.tok _ _ _ | exact Weak.of_eq (congrArg (AV.int _) (by omega)) | exact Weak.nils _ _ (.inr rfl), ?_⟩))
  · have h1 : i = k % (most + 1) := by rw [← hmod] at hc; simp only [decide_eq_false_iff_not] at hc; omega
    rw [h1]; rfl
end Go.Proofs.YtkbmkhhcppfcnaaGreatDoor
end
section
set_option linter.unusedVariables false
namespace Go.Proofs.YtkbmkhhcppfcnaaGreatDoor
open Go.Al
def Rise : Int → List Int → Prop
  | _, [] => True
  | lo, a :: l => lo < a ∧ Rise a l
theorem Rise.snoc : ∀ {l : List Int} {lo b : Int}, Rise lo l → lo < b → (∀ a ∈ l, a < b) → Rise lo (l ++ [b])
  | [], lo, b, _, h, _ => ⟨h, trivial⟩
  | a :: l, lo, b, h, hb, ha => ⟨h.1, Rise.snoc h.2 (ha a (by simp)) fun c hc => ha c (by simp [hc])⟩
theorem Rise.lt : ∀ {l : List Int} {lo : Int}, Rise lo l → ∀ a ∈ l, lo < a
  | [], _, _, a, h => by simp at h
  | b :: l, lo, h, a, ha => by
    rcases List.mem_cons.1 ha with rfl | ha
    · exact h.1
    · have := Rise.lt h.2 a ha
      have := h.1
      omega
structure MsgOk (clock most lease : Int) (m : Msg) : Prop where
  body : m.body.length ≤ 60
  attr : m.attr = [] ∨ m.attr = [97, 61, 49] ∨ m.attr = [98, 61, 50]
  prio : 0 ≤ m.prio ∧ m.prio ≤ 9
  st : (m.dead = false ∧ m.why = [] ∧ m.until_ = 0 ∧ 0 ≤ m.tries ∧ m.tries < most) ∨ (m.dead = false ∧ m.why = [] ∧ (1 ≤ m.tries ∧ m.tries ≤ most) ∧ clock < m.until_ ∧ m.until_ ≤ clock + lease) ∨
    (m.dead = true ∧ m.until_ = 0 ∧ m.tries = most ∧ (m.why = [110, 97, 99, 107] ∨ m.why = [116, 105, 109, 101]))
def TopicOk (v : List UInt8) : Prop := v = [35] ∨ v = [97] ∨ v = [97, 47, 43] ∨ v = [98, 47, 35]
def WantOk (v : List UInt8) : Prop := v = [] ∨ v = [97, 61, 49] ∨ v = [97, 61, 49, 44, 98, 61, 50]
structure Grown (id clock next : Nat) (x : Sub) : Prop where
  name : ∃ k, k < 256 ∧ x.name = 110 :: textL k 19
  topic : TopicOk x.topic
  want : WantOk x.want
  note : x.note.length ≤ 30
  id : x.id = id
  most : 1 ≤ x.most ∧ x.most ≤ 9
  lease : 1 ≤ x.lease ∧ x.lease ≤ 1000
  floor : 0 ≤ x.floor ∧ x.floor < next
  nacks : x.acks.length ≤ 20
  nqueue : x.queue.length ≤ 30
  rise : Rise x.floor x.acks
  high : ∀ a ∈ x.acks, a < next
  qrise : Rise x.floor (x.queue.map Msg.seq)
  qhigh : ∀ m ∈ x.queue, m.seq < next
  apart : ∀ a ∈ x.acks, ∀ m ∈ x.queue, a ≠ m.seq
  msgs : ∀ m ∈ x.queue, MsgOk clock x.most x.lease m
theorem TopicOk.len {v : List UInt8} (h : TopicOk v) : v.length ≤ 30 := by rcases h with rfl | rfl | rfl | rfl <;> decide
theorem WantOk.len {v : List UInt8} (h : WantOk v) : v.length ≤ 30 := by rcases h with rfl | rfl | rfl <;> decide
theorem MsgOk.alen {c m l : Int} {x : Msg} (h : MsgOk c m l x) : x.attr.length ≤ 30 := by rcases h.attr with e | e | e <;> rw [e] <;> decide
theorem Grown.nlen {id clock next : Nat} {x : Sub} (h : Grown id clock next x) : x.name.length ≤ 20 := by
  obtain ⟨k, _, e⟩ := h.name
  have := textL_len k 19
  rw [e]; simp; omega
theorem Grown.fits {id clock next : Nat} {x : Sub} (h : Grown id clock next x) : Fits x :=
  ⟨by have := h.nlen; omega, by have := h.topic.len; omega, by have := h.want.len; omega, by have := h.note; omega, by have := h.nacks; omega, by have := h.nqueue; omega,
    fun m hm => by have h1 := h.msgs m hm; have := h1.body; have := h1.alen; omega⟩
structure UpTo (x : Sub) (seq : Int) : Prop where
  floor : x.floor ≤ seq
  acks : ∀ a ∈ x.acks, a ≤ seq
  queue : ∀ m ∈ x.queue, m.seq ≤ seq
theorem Grown.withNote {id clock next : Nat} {x : Sub} (h : Grown id clock next x) {s : List UInt8} (hs : s.length ≤ 30) : Grown id clock next { x with note := s } :=
  ⟨h.name, h.topic, h.want, hs, h.id, h.most, h.lease, h.floor, h.nacks, h.nqueue, h.rise, h.high, h.qrise, h.qhigh, h.apart, h.msgs⟩
theorem Grown.ack {id clock next : Nat} {x : Sub} (h : Grown id clock next x) {seq s : Int} (hu : UpTo x seq) (hs : seq < s) (hn : s < next) (hl : x.acks.length < 20) : Grown id clock next { x with acks := x.acks ++ [s] } ∧ UpTo { x with acks := x.acks ++ [s] } s := by
  have hf := hu.floor
  refine ⟨⟨h.name, h.topic, h.want, h.note, h.id, h.most, h.lease, h.floor, by simp; omega, h.nqueue, h.rise.snoc (by omega) fun a ha => by have := hu.acks a ha; omega, ?_, h.qrise, h.qhigh, ?_, h.msgs⟩, ⟨by show x.floor ≤ s; omega, ?_, fun m hm => by have := hu.queue m hm; omega⟩⟩
  · intro a ha
    rcases List.mem_append.1 ha with ha | ha
    · exact h.high a ha
    · obtain rfl := List.mem_singleton.1 ha; exact hn
  · intro a ha m hm
    rcases List.mem_append.1 ha with ha | ha
    · exact h.apart a ha m hm
    · obtain rfl := List.mem_singleton.1 ha
      have := hu.queue m hm
      omega
  · intro a ha
    rcases List.mem_append.1 ha with ha | ha
    · have := hu.acks a ha; omega
    · obtain rfl := List.mem_singleton.1 ha; exact Int.le_refl _
theorem Grown.msg {id clock next : Nat} {x : Sub} (h : Grown id clock next x) {seq : Int} {m : Msg} (hu : UpTo x seq) (hs : seq < m.seq) (hn : m.seq < next) (hl : x.queue.length < 30) (hm : MsgOk clock x.most x.lease m) : Grown id clock next { x with queue := x.queue ++ [m] } ∧ UpTo { x with queue := x.queue ++ [m] } m.seq := by
  have hf := hu.floor
  refine ⟨⟨h.name, h.topic, h.want, h.note, h.id, h.most, h.lease, h.floor, h.nacks, by simp; omega, h.rise, h.high, ?_, ?_, ?_, ?_⟩, ⟨by show x.floor ≤ m.seq; omega, fun a ha => by have := hu.acks a ha; omega, ?_⟩⟩
  · show Rise x.floor ((x.queue ++ [m]).map Msg.seq)
    rw [List.map_append]
    refine h.qrise.snoc (by omega) fun a ha => ?_
    obtain ⟨y, hy, rfl⟩ := List.mem_map.1 ha
    have := hu.queue y hy; omega
  · intro a ha
    rcases List.mem_append.1 ha with ha | ha
    · exact h.qhigh a ha
    · obtain rfl := List.mem_singleton.1 ha; exact hn
  · intro a ha y hy
    rcases List.mem_append.1 hy with hy | hy
    · exact h.apart a ha y hy
    · obtain rfl := List.mem_singleton.1 hy
      have := hu.acks a ha
      omega
  · intro y hy
    rcases List.mem_append.1 hy with hy | hy
    · exact h.msgs y hy
    · obtain rfl := List.mem_singleton.1 hy; exact hm
  · intro y hy
    rcases List.mem_append.1 hy with hy | hy
    · have := hu.queue y hy; omega
    · obtain rfl := List.mem_singleton.1 hy; exact Int.le_refl _
end Go.Proofs.YtkbmkhhcppfcnaaGreatDoor
end
section
set_option linter.unusedVariables false
set_option linter.unusedSimpArgs false
namespace Go.Proofs.YtkbmkhhcppfcnaaGreatDoor
open Go.Al
structure Pts where
  v : Nat
  t : UInt8
  id : Int
  seq : Int
  ok : Bool
def Pts.none : Pts := ⟨0, 0, 0, 0, false⟩
def parts (k : List UInt8) : Pts :=
  if k.length = 22 ∧ (48 ≤ (k.getD 0 0).toNat ∧ (k.getD 0 0).toNat ≤ 57) ∧ (97 ≤ (k.getD 1 0).toNat ∧ (k.getD 1 0).toNat ≤ 122) then
    if (goAtoi ((k.take 12).drop 2)).2 = true ∧ (goAtoi (k.drop 12)).2 = true ∧ rkey ((k.getD 0 0).toNat - 48) (k.getD 1 0) (goAtoi ((k.take 12).drop 2)).1 (goAtoi (k.drop 12)).1 = k then
      ⟨(k.getD 0 0).toNat - 48, k.getD 1 0, (goAtoi ((k.take 12).drop 2)).1, (goAtoi (k.drop 12)).1, true⟩
    else .none
  else .none
theorem cl_nn {n : Int} (h : 0 ≤ n ∧ n ≤ 9999999999) : ((cl n : Nat) : Int) = n := by unfold cl; omega
theorem goAtoi_dN (n : Int) : goAtoi (dN 10 (cl n)) = (((cl n : Nat) : Int), true) := goAtoi_ok (n := ((cl n : Nat) : Int)) (by rw [dN_length]; decide) (atoi_dN 9 (cl n) (cl_lt n))
theorem rkey_take (v : Nat) (t : UInt8) (id seq : Int) : ((rkey v t id seq).take 12).drop 2 = dN 10 (cl id) := by
  have hA := dN_length 10 (cl id)
  show ((dN 10 (cl id)) ++ (dN 10 (cl seq))).take 10 = _
  rw [List.take_append_of_le_length (by omega), List.take_of_length_le (by omega)]
theorem rkey_drop (v : Nat) (t : UInt8) (id seq : Int) : (rkey v t id seq).drop 12 = dN 10 (cl seq) := by
  have hA := dN_length 10 (cl id)
  show ((dN 10 (cl id)) ++ (dN 10 (cl seq))).drop 10 = _
  rw [List.drop_append_of_le_length (by omega), List.drop_of_length_le (by omega)]; rfl
theorem rkey_0 (v : Nat) (t : UInt8) (id seq : Int) : (rkey v t id seq).getD 0 0 = UInt8.ofNat (48 + v) := rfl
theorem rkey_1 (v : Nat) (t : UInt8) (id seq : Int) : (rkey v t id seq).getD 1 0 = t := rfl
theorem rkey_cl (v : Nat) (t : UInt8) (id seq : Int) : rkey v t (cl id : Nat) (cl seq : Nat) = rkey v t id seq := by
  have h : ∀ n : Int, cl ((cl n : Nat) : Int) = cl n := fun n => by unfold cl; omega
  simp only [rkey, h]
theorem parts_rkey {v : Nat} (hv : v < 10) {t : UInt8} (ht : 97 ≤ t.toNat ∧ t.toNat ≤ 122) (id seq : Int) : parts (rkey v t id seq) = ⟨v, t, (cl id : Nat), (cl seq : Nat), true⟩ := by
  have hb : (UInt8.ofNat (48 + v)).toNat = 48 + v := byte_val (by omega)
  rw [parts, rkey_0, rkey_1, rkey_take, rkey_drop, goAtoi_dN, goAtoi_dN, hb, rkey_length, if_pos ⟨rfl, by omega, ht⟩]
  rw [show 48 + v - 48 = v by omega]
  simp only [rkey_cl, and_self, if_true]
def partsR (k : List UInt8) : Pts :=
  if k.length = 22 ∧ (97 ≤ (k.getD 1 0).toNat ∧ (k.getD 1 0).toNat ≤ 122) then
    if rkey (goAtoi (k.take 1)).1.toNat (k.getD 1 0) (goAtoi ((k.take 12).drop 2)).1 (goAtoi (k.drop 12)).1 = k then
      ⟨(goAtoi (k.take 1)).1.toNat, k.getD 1 0, (goAtoi ((k.take 12).drop 2)).1, (goAtoi (k.drop 12)).1, true⟩
    else .none
  else .none
end Go.Proofs.YtkbmkhhcppfcnaaGreatDoor
end
section
set_option linter.unusedVariables false
set_option linter.unusedSimpArgs false
namespace Go.Proofs.YtkbmkhhcppfcnaaGreatDoor
open Go.Al
def whyN (k : Nat) : List UInt8 := if k = 0 then [] else if k = 1 then [110, 97, 99, 107] else [116, 105, 109, 101]
def rMsg (seq : Int) (v : List UInt8) (a : Nat) (f : Option Nat) : Msg × Nat × Option Nat :=
  let p1 := rText v a f 60
  let p2 := rText v p1.2.1 p1.2.2 30
  let p3 := rNum v p2.2.1 p2.2.2
  let p4 := rNum v p3.2.1 p3.2.2
  let p5 := rNum v p4.2.1 p4.2.2
  let p6 := rNum v p5.2.1 p5.2.2
  (⟨seq, p1.1, p2.1, p3.1, p4.1, decide ((0 : Int) < (p6.1 : Int)), whyN (min p6.1 2), p5.1⟩, p6.2.1, p6.2.2)
def rSub (x : Sub) (v : List UInt8) : Sub × Option Nat :=
  let p1 := rText v 0 none 30
  let p2 := rText v p1.2.1 p1.2.2 30
  let p3 := rText v p2.2.1 p2.2.2 30
  let p4 := rNum v p3.2.1 p3.2.2
  let p5 := rNum v p4.2.1 p4.2.2
  let p6 := rNum v p5.2.1 p5.2.2
  let p7 := rText v p6.2.1 p6.2.2 30
  ({ x with name := p1.1, topic := p2.1, want := p3.1, lease := p4.1, most := p5.1, floor := p6.1, note := p7.1 }, p7.2.2)
def rGaps (v : List UInt8) : Nat → Nat → Option Nat → List Int → List Int × Option Nat
  | 0, _, f, acc => (acc, f)
  | n + 1, a, f, acc => if f = none then rGaps v n (rNum v a f).2.1 (rNum v a f).2.2 (acc ++ [((rNum v a f).1 : Int)]) else (acc, f)
structure D3 where
  x : Sub
  gaps : List Int
  good : Bool
def sub0 : Sub := ⟨0, [], [], [], 0, 0, 0, [], [], []⟩
def dRow (d : D3) (r : Row) : D3 × Option Nat :=
  let p := parts r.key
  let x := { d.x with id := p.id }
  if p.t = 97 then
    let q := rNum r.val 0 none
    let g := rGaps r.val q.1 q.2.1 q.2.2 d.gaps
    (⟨x, g.1, d.good⟩, g.2)
  else if p.t = 113 then
    let m := rMsg p.seq r.val 0 none
    (⟨{ x with queue := x.queue ++ [m.1] }, d.gaps, d.good⟩, m.2.2)
  else if p.t = 115 then
    let s := rSub x r.val
    (⟨s.1, d.gaps, d.good⟩, s.2)
  else (⟨x, d.gaps, d.good⟩, none)
def gtS (a b : List UInt8) : Bool := !(ltS a b || decide (a = b))
def dStep (d : D3) (i : Nat) (prev : List UInt8) (r : Row) : D3 :=
  let q := dRow d r
  { q.1 with good := d.good && (decide (i = 0) || gtS r.key prev) && q.2.isNone }
def dRows (l : List Row) : Nat → D3
  | 0 => ⟨sub0, [], true⟩
  | i + 1 => dStep (dRows l i) i ((l[i - 1]?).getD ⟨[], []⟩).key ((l[i]?).getD ⟨[], []⟩)
def runUp (last : Int) : List Int → List Int
  | [] => []
  | g :: l => w64 (last + g) :: runUp (w64 (last + g)) l
def dSub (l : List Row) : Sub := let d := dRows l l.length; { d.x with acks := runUp d.x.floor d.gaps }
def dec3 (l : List Row) : Sub × Nat := if (dRows l l.length).good = true ∧ enc3 (dSub l) = l then (dSub l, 0) else (sub0, 11)
end Go.Proofs.YtkbmkhhcppfcnaaGreatDoor
end
section
set_option linter.unusedVariables false
set_option linter.unusedSimpArgs false
namespace Go.Proofs.YtkbmkhhcppfcnaaGreatDoor
open Go.Al
theorem rNum_far (v : List UInt8) (a : Nat) (f : Option Nat) : (rNum v a f).2.1 ≤ max a v.length := by
  have h := (getNum_le v a).1
  simp only [rNum, atN]; split <;> omega
theorem getText_far (v : List UInt8) (a most : Nat) : (getText v a most).2.1 ≤ v.length ∧ (getText v a most).1.length ≤ most := by
  have h := (getNum_le v a).1
  unfold getText
  dsimp only
  split
  · simp
  · split
    · simp
    · split
      · simp
      · simp; omega
theorem rText_far (v : List UInt8) (a : Nat) (f : Option Nat) (most : Nat) : (rText v a f most).2.1 ≤ max a v.length := by
  have h := (getText_far v a most).1
  simp only [rText, atN]; split <;> omega
theorem rText_len (v : List UInt8) (a : Nat) (f : Option Nat) (most : Nat) : (rText v a f most).1.length ≤ most := by
  have h := (getText_far v a most).2
  simp only [rText]; split
  · exact h
  · simp
theorem gn_gt : ∀ (v : List UInt8) (a k i n : Nat), (gn v a k i n).2.2 = 0 → a + i < (gn v a k i n).2.1
  | v, a, 0, i, n, h => by simp [gn] at h
  | v, a, k + 1, i, n, h => by
    rw [gn] at h ⊢
    split
    · rename_i h1; rw [if_pos h1] at h; simp at h
    · rename_i h1
      rw [if_neg h1] at h
      dsimp only at h ⊢
      split
      · rename_i h2
        rw [if_pos h2] at h
        split
        · rename_i h3; rw [if_pos h3] at h; simp at h
        · simp
      · rename_i h2
        rw [if_neg h2] at h
        have := gn_gt v a k (i + 1) _ h
        omega
theorem getNum_gt (v : List UInt8) (a : Nat) (h : (getNum v a).2.2 = 0) : a < (getNum v a).2.1 := by
  unfold getNum at h ⊢
  split
  · rename_i h1; rw [if_pos h1] at h; simp at h
  · rename_i h1
    rw [if_neg h1] at h
    exact gn_gt v a 8 0 0 h
theorem rNum_step (v : List UInt8) (a : Nat) : (rNum v a none).2.2 = none → a < (rNum v a none).2.1 ∧ (rNum v a none).2.1 ≤ v.length := by
  intro h
  have he : (getNum v a).2.2 = 0 := by
    simp only [rNum, errN] at h
    by_cases he : (getNum v a).2.2 = 0
    · exact he
    · rw [if_neg he] at h; cases h
  have h1 := getNum_gt v a he
  have h2 := (getNum_le v a).1
  simp only [rNum, atN, if_pos he]
  exact ⟨h1, h2⟩
theorem rGaps_len : ∀ (v : List UInt8) (n a : Nat) (f : Option Nat) (acc : List Int), (f = none → a ≤ v.length) → (rGaps v n a f acc).1.length ≤ acc.length + (v.length - a) + 1
  | v, 0, a, f, acc, h => by simp [rGaps]; omega
  | v, n + 1, a, f, acc, h => by
    rw [rGaps]
    split
    · rename_i hf
      subst hf
      have ha := h rfl
      cases hr : (rNum v a none).2.2 with
      | none =>
        obtain ⟨h1, h2⟩ := rNum_step v a hr
        have := rGaps_len v n (rNum v a none).2.1 none (acc ++ [((rNum v a none).1 : Int)]) (fun _ => h2)
        simp at this
        omega
      | some e =>
        have : rGaps v n (rNum v a none).2.1 (some e) (acc ++ [((rNum v a none).1 : Int)]) = (acc ++ [((rNum v a none).1 : Int)], some e) := by
          cases n <;> simp [rGaps]
        rw [this]; simp
    · simp; omega
def tot (l : List Row) : Nat := (l.map fun r => r.val.length + 1).sum
theorem tot_take {l : List Row} {i : Nat} {r : Row} (h : l[i]? = some r) : tot (l.take (i + 1)) = tot (l.take i) + r.val.length + 1 := by
  rw [take_snoc h]; simp [tot]; omega
theorem tot_le (l : List Row) (i : Nat) : tot (l.take i) ≤ tot l := by
  have : tot l = tot (l.take i) + tot (l.drop i) := by
    conv => lhs; rw [← List.take_append_drop i l]
    simp only [tot, List.map_append, List.sum_append]
  omega
theorem tot_len : ∀ l : List Row, l.length ≤ tot l
  | [] => by simp [tot]
  | r :: l => by have := tot_len l; simp [tot] at this ⊢; omega
theorem tot_mem {l : List Row} {r : Row} (h : r ∈ l) : r.val.length + 1 ≤ tot l := by
  obtain ⟨i, hi, rfl⟩ := List.getElem_of_mem h
  have h1 := tot_take (l := l) (i := i) (r := l[i]) (by simp [hi])
  have h2 := tot_le l (i + 1)
  omega
structure DFit (d : D3) (n m : Nat) : Prop where
  name : d.x.name.length ≤ 1000
  topic : d.x.topic.length ≤ 1000
  want : d.x.want.length ≤ 1000
  note : d.x.note.length ≤ 1000
  acks : d.x.acks = []
  gaps : d.gaps.length ≤ n
  queue : d.x.queue.length ≤ m
  msgs : ∀ m ∈ d.x.queue, m.body.length ≤ 1000 ∧ m.attr.length ≤ 1000
theorem rMsg_fit (seq : Int) (v : List UInt8) (a : Nat) (f : Option Nat) : (rMsg seq v a f).1.body.length ≤ 1000 ∧ (rMsg seq v a f).1.attr.length ≤ 1000 := by
  have h1 := rText_len v a f 60
  have h2 := rText_len v (rText v a f 60).2.1 (rText v a f 60).2.2 30
  simp only [rMsg]
  omega
theorem dRow_fit {d : D3} {n m : Nat} (h : DFit d n m) (r : Row) : DFit (dRow d r).1 (n + r.val.length + 1) (m + 1) := by
  have hg := h.gaps
  have hq := h.queue
  unfold dRow
  dsimp only
  split
  · refine ⟨h.name, h.topic, h.want, h.note, h.acks, ?_, by show d.x.queue.length ≤ m + 1; omega, h.msgs⟩
    have := rGaps_len r.val (rNum r.val 0 none).1 (rNum r.val 0 none).2.1 (rNum r.val 0 none).2.2 d.gaps (fun hf => (rNum_step r.val 0 hf).2)
    show (rGaps _ _ _ _ _).1.length ≤ _
    omega
  · split
    · refine ⟨h.name, h.topic, h.want, h.note, h.acks, by show d.gaps.length ≤ _; omega, by show (d.x.queue ++ _).length ≤ _; simp; omega, ?_⟩
      intro y hy
      rcases List.mem_append.1 hy with hy | hy
      · exact h.msgs y hy
      · obtain rfl := List.mem_singleton.1 hy; exact rMsg_fit _ _ _ _
    · split
      · refine ⟨?_, ?_, ?_, ?_, h.acks, by show d.gaps.length ≤ _; omega, by show d.x.queue.length ≤ m + 1; omega, h.msgs⟩
        all_goals
          simp only [rSub]
          refine Nat.le_trans (rText_len _ _ _ _) (by decide)
      · exact ⟨h.name, h.topic, h.want, h.note, h.acks, by show d.gaps.length ≤ _; omega, by show d.x.queue.length ≤ m + 1; omega, h.msgs⟩
theorem dRows_fit (l : List Row) : ∀ i, i ≤ l.length → DFit (dRows l i) (tot (l.take i)) i
  | 0, _ => ⟨by simp [dRows, sub0], by simp [dRows, sub0], by simp [dRows, sub0], by simp [dRows, sub0], rfl, by simp [dRows], by simp [dRows, sub0], by simp [dRows, sub0]⟩
  | i + 1, hi => by
    have h := dRows_fit l i (by omega)
    have hg : l[i]? = some l[i] := by simp [show i < l.length by omega]
    have h2 := dRow_fit h l[i]
    rw [dRows, tot_take hg, hg]
    exact ⟨h2.name, h2.topic, h2.want, h2.note, h2.acks, h2.gaps, h2.queue, h2.msgs⟩
theorem runUp_len : ∀ (l : List Int) (a : Int), (runUp a l).length = l.length
  | [], _ => rfl
  | g :: l, a => by simp [runUp, runUp_len l]
theorem dSub_fits (l : List Row) (h : tot l ≤ 100000) : Fits (dSub l) := by
  have hf := dRows_fit l l.length (Nat.le_refl _)
  have hl := tot_len l
  have ht := hf.gaps
  rw [List.take_length] at ht
  have hq := hf.queue
  exact ⟨hf.name, hf.topic, hf.want, hf.note, by show (runUp _ _).length ≤ _; rw [runUp_len]; omega, by show (dRows l l.length).x.queue.length ≤ _; omega, hf.msgs⟩
end Go.Proofs.YtkbmkhhcppfcnaaGreatDoor
end
section
set_option linter.unusedVariables false
set_option linter.unusedSimpArgs false
namespace Go.Proofs.YtkbmkhhcppfcnaaGreatDoor
open Go.Al
theorem ltS_nil (l : List UInt8) : ltS l [] = false := by cases l <;> rfl
theorem ltS_cons (a b : UInt8) (l m : List UInt8) : ltS (a :: l) (b :: m) = (decide (a < b) || (a == b && ltS l m)) := rfl
theorem ltS_irr : ∀ l : List UInt8, ltS l l = false
  | [] => rfl
  | a :: l => by rw [ltS_cons, ltS_irr l]; simp
theorem ltS_app : ∀ (p l m : List UInt8), ltS (p ++ l) (p ++ m) = ltS l m
  | [], l, m => rfl
  | a :: p, l, m => by rw [List.cons_append, List.cons_append, ltS_cons, ltS_app p]; simp
theorem ltS_same : ∀ (p q l m : List UInt8), p.length = q.length → ltS p q = true → ltS (p ++ l) (q ++ m) = true
  | [], [], l, m, _, h => by cases h
  | a :: p, b :: q, l, m, hl, h => by
    rw [ltS_cons] at h
    rw [List.cons_append, List.cons_append, ltS_cons]
    simp only [Bool.or_eq_true, Bool.and_eq_true] at h ⊢
    exact h.imp id fun h => ⟨h.1, ltS_same p q l m (by simpa using hl) h.2⟩
theorem ltS_asymm : ∀ (l m : List UInt8), ltS l m = true → ltS m l = false
  | l, [], h => by rw [ltS_nil] at h; cases h
  | [], b :: m, _ => rfl
  | a :: l, b :: m, h => by
    rw [ltS_cons] at h ⊢
    simp only [Bool.or_eq_true, Bool.and_eq_true, decide_eq_true_eq, beq_iff_eq] at h
    simp only [Bool.or_eq_false_iff, Bool.and_eq_false_iff, decide_eq_false_iff_not]
    rcases h with h | ⟨rfl, h⟩
    · have hn : a.toNat < b.toNat := h
      refine ⟨fun h' => ?_, .inl ?_⟩
      · have : b.toNat < a.toNat := h'
        omega
      · rw [beq_eq_false_iff_ne]
        rintro rfl
        omega
    · exact ⟨fun h' => by have : a.toNat < a.toNat := h'; omega, .inr (ltS_asymm l m h)⟩
theorem ltS_not_le {a b : List UInt8} (h : ltS a b = true) : (ltS b a || decide (b = a)) = false := by
  rw [ltS_asymm a b h, Bool.false_or, decide_eq_false_iff_not]
  rintro rfl
  rw [ltS_irr] at h; cases h
theorem gtS_of {a b : List UInt8} (h : ltS b a = true) : gtS a b = true := by
  rw [gtS, ltS_not_le h]; rfl
theorem dN_lt : ∀ (k a b : Nat), a < b → b < 10 ^ k → ltS (dN k a) (dN k b) = true
  | 0, a, b, h, hb => by simp at hb; omega
  | k + 1, a, b, h, hb => by
    rw [dN, dN]
    have hb' : b / 10 < 10 ^ k := by rw [Nat.pow_succ] at hb; omega
    by_cases hq : a / 10 < b / 10
    · exact ltS_same _ _ _ _ (by rw [dN_length, dN_length]) (dN_lt k _ _ hq hb')
    · have he : a / 10 = b / 10 := by omega
      rw [he, ltS_app, ltS_cons]
      have h1 : (dig a).toNat = 48 + a % 10 := by rw [dig, byte_val (by omega)]
      have h2 : (dig b).toNat = 48 + b % 10 := by rw [dig, byte_val (by omega)]
      have : dig a < dig b := by show (dig a).toNat < (dig b).toNat; omega
      simp [this]
theorem cl_mono {a b : Int} (h0 : 0 ≤ a) (h : a < b) (hb : b ≤ 9999999999) : cl a < cl b := by unfold cl; omega
theorem rkey_seq (v : Nat) (t : UInt8) (id : Int) {a b : Int} (h0 : 0 ≤ a) (h : a < b) (hb : b ≤ 9999999999) : ltS (rkey v t id a) (rkey v t id b) = true := by
  rw [rkey, rkey, ltS_app]
  exact dN_lt 10 _ _ (cl_mono h0 h hb) (cl_lt b)
theorem rkey_table (v : Nat) {t u : UInt8} (h : t.toNat < u.toNat) (id a b : Int) : ltS (rkey v t id a) (rkey v u id b) = true := by
  show ltS (UInt8.ofNat (48 + v) :: t :: (dN 10 (cl id) ++ dN 10 (cl a))) (UInt8.ofNat (48 + v) :: u :: (dN 10 (cl id) ++ dN 10 (cl b))) = true
  rw [ltS_cons, ltS_cons]
  have : t < u := h
  simp [this]
def Up (l : List Row) : Prop := l.Pairwise fun a b => ltS a.key b.key = true
theorem Up.get {l : List Row} (h : Up l) {i : Nat} {a b : Row} (ha : l[i]? = some a) (hb : l[i + 1]? = some b) : ltS a.key b.key = true := by
  obtain ⟨h1, rfl⟩ := List.getElem?_eq_some_iff.1 ha
  obtain ⟨h2, rfl⟩ := List.getElem?_eq_some_iff.1 hb
  exact List.pairwise_iff_getElem.1 h i (i + 1) h1 h2 (by omega)
theorem rise_rows (v : Nat) (t : UInt8) (id : Int) (f : Msg → List UInt8) : ∀ (q : List Msg) (lo : Int), 0 ≤ lo → Rise lo (q.map Msg.seq) → (∀ m ∈ q, m.seq ≤ 9999999999) → Up (q.map fun m => ⟨rkey v t id m.seq, f m⟩)
  | [], _, _, _, _ => .nil
  | m :: q, lo, h0, h, hh => by
    have h1 : lo < m.seq := h.1
    refine .cons ?_ (rise_rows v t id f q m.seq (by omega) h.2 fun x hx => hh x (by simp [hx]))
    intro r hr
    obtain ⟨x, hx, rfl⟩ := List.mem_map.1 hr
    have : m.seq < x.seq := h.2.lt _ (List.mem_map.2 ⟨x, hx, rfl⟩)
    exact rkey_seq v t id (by omega) this (hh x (by simp [hx]))
theorem enc3_up {id clock next : Nat} {x : Sub} (h : Grown id clock next x) (hn : next ≤ 9999999999) : Up (enc3 x) := by
  rw [enc3, Up, List.pairwise_append, List.pairwise_append]
  refine ⟨⟨?_, ?_, ?_⟩, .cons (by simp) .nil, ?_⟩
  · split
    · exact .nil
    · exact .cons (by simp) .nil
  · exact rise_rows 3 113 x.id msgB x.queue x.floor h.floor.1 h.qrise fun m hm => by have := h.qhigh m hm; omega
  · intro a ha b hb
    obtain ⟨m, hm, rfl⟩ := List.mem_map.1 hb
    split at ha
    · simp at ha
    · obtain rfl := List.mem_singleton.1 ha
      exact rkey_table 3 (by decide) x.id 0 m.seq
  · intro a ha b hb
    obtain rfl := List.mem_singleton.1 hb
    rcases List.mem_append.1 ha with ha | ha
    · split at ha
      · simp at ha
      · obtain rfl := List.mem_singleton.1 ha
        exact rkey_table 3 (by decide) x.id 0 0
    · obtain ⟨m, hm, rfl⟩ := List.mem_map.1 ha
      exact rkey_table 3 (by decide) x.id m.seq 0
theorem num_len2 {n : Int} (h : n < 16384) : (num n).length ≤ 2 := numB_len 1 _ (by unfold clampN; omega)
theorem num_len1 {n : Int} (h : n < 128) : (num n).length ≤ 1 := numB_len 0 _ (by unfold clampN; omega)
theorem gaps_short : ∀ (l : List Int) (lo : Int) (n : Nat), 0 ≤ lo → Rise lo l → (∀ a ∈ l, a < n) → n ≤ 16384 → (gapsB lo l).length ≤ 2 * l.length
  | [], _, _, _, _, _, _ => by simp [gapsB]
  | a :: l, lo, n, h0, h, hh, hn => by
    have h1 := h.1
    have h2 := hh a (by simp)
    have h3 : w64 (a - lo) = a - lo := Go.IntWalk.i64_in _ (by omega)
    have h4 := num_len2 (n := a - lo) (by omega)
    have h5 := gaps_short l a n (by omega) h.2 (fun x hx => hh x (by simp [hx])) hn
    rw [gapsB, h3]
    simp; omega
theorem topic_short {v : List UInt8} (h : TopicOk v) : v.length ≤ 3 := by rcases h with rfl | rfl | rfl | rfl <;> decide
theorem want_short {v : List UInt8} (h : WantOk v) : v.length ≤ 7 := by rcases h with rfl | rfl | rfl <;> decide
theorem attr_short {c m l : Int} {x : Msg} (h : MsgOk c m l x) : x.attr.length ≤ 3 := by rcases h.attr with e | e | e <;> rw [e] <;> decide
theorem acksB_short {id clock next : Nat} {x : Sub} (h : Grown id clock next x) (hn : next ≤ 16384) : (acksB x).length ≤ 150 := by
  have h1 := num_len1 (n := x.acks.length) (by have := h.nacks; omega)
  have h2 := gaps_short x.acks x.floor next h.floor.1 h.rise h.high hn
  have h3 := h.nacks
  rw [acksB]; simp; omega
theorem msgB_short {c m l : Int} {x : Msg} (h : MsgOk c m l x) : (msgB x).length ≤ 150 := by
  have h1 := txt_len x.body
  have h2 := txt_len x.attr
  have h3 := h.body
  have h4 := attr_short h
  have h5 := num_len x.tries
  have h6 := num_len x.until_
  have h7 := num_len x.prio
  have h8 := num_len (deathN x)
  rw [msgB]; simp; omega
theorem subB_short {id clock next : Nat} {x : Sub} (h : Grown id clock next x) : (subB x).length ≤ 150 := by
  have h1 := txt_len x.name
  have h2 := txt_len x.topic
  have h3 := txt_len x.want
  have h4 := txt_len x.note
  have h5 := num_len x.lease
  have h6 := num_len x.most
  have h7 := num_len x.floor
  have h8 := h.nlen
  have h9 := topic_short h.topic
  have ha := want_short h.want
  have hb := h.note
  rw [subB]; simp; omega
theorem enc3_row {id clock next : Nat} {x : Sub} (h : Grown id clock next x) (hn : next ≤ 16384) {r : Row} (hr : r ∈ enc3 x) : (∃ t seq, (97 ≤ t.toNat ∧ t.toNat ≤ 122) ∧ r.key = rkey 3 t x.id seq) ∧ r.val.length ≤ 150 := by
  rw [enc3] at hr
  rcases List.mem_append.1 hr with hr | hr
  · rcases List.mem_append.1 hr with hr | hr
    · split at hr
      · simp at hr
      · obtain rfl := List.mem_singleton.1 hr
        exact ⟨⟨97, 0, by decide, rfl⟩, acksB_short h hn⟩
    · obtain ⟨m, hm, rfl⟩ := List.mem_map.1 hr
      exact ⟨⟨113, m.seq, by decide, rfl⟩, msgB_short (h.msgs m hm)⟩
  · obtain rfl := List.mem_singleton.1 hr
    exact ⟨⟨115, 0, by decide, rfl⟩, subB_short h⟩
end Go.Proofs.YtkbmkhhcppfcnaaGreatDoor
end
section
set_option linter.unusedVariables false
namespace Go.Proofs.YtkbmkhhcppfcnaaGreatDoor
open Go.Al
def leS (a b : List UInt8) : Bool := ltS a b || decide (a = b)
def upTo (l : List Row) : Nat → Bool
  | 0 => true
  | i + 1 => upTo l i && (decide (i = 0) || !leS ((l[i]?.getD ⟨[], []⟩).key) ((l[i - 1]?.getD ⟨[], []⟩).key))
theorem upTo_false {l : List Row} : ∀ {n i : Nat}, i ≤ n → upTo l i = false → upTo l n = false
  | 0, i, h, e => by
    have : i = 0 := by omega
    subst this; exact e
  | n + 1, i, h, e => by
    by_cases hi : i = n + 1
    · subst hi; exact e
    · rw [upTo, upTo_false (show i ≤ n by omega) e]; rfl
theorem upTo_up {l : List Row} (h : Up l) : ∀ i, i ≤ l.length → upTo l i = true
  | 0, _ => rfl
  | i + 1, hi => by
    rw [upTo, upTo_up h i (by omega)]
    by_cases h0 : i = 0
    · simp [h0]
    · obtain ⟨j, rfl⟩ : ∃ j, i = j + 1 := ⟨i - 1, by omega⟩
      have ga : l[j]? = some (l[j]'(by omega)) := by simp
      have gb : l[j + 1]? = some (l[j + 1]'(by omega)) := by simp
      have := ltS_not_le (h.get ga gb)
      simp only [leS, Nat.add_sub_cancel, ga, gb, Option.getD_some]
      rw [this]; simp
def note2 (x : Sub) : List Row := if x.note = [] then [] else [⟨rkey 2 110 x.id 0, txt x.note⟩]
def ack2 (x : Sub) : List Row := if x.acks = [] then [] else [⟨rkey 2 97 x.id 0, acksB x⟩]
def b2 (id : Int) (m : Msg) : Row := ⟨rkey 2 98 id m.seq, txt m.body⟩
def qB2 (m : Msg) : List UInt8 := txt m.attr ++ (num m.tries ++ (num m.until_ ++ num (deadN m)))
def q2 (id : Int) (m : Msg) : Row := ⟨rkey 2 113 id m.seq, qB2 m⟩
def sB2 (x : Sub) : List UInt8 := txt x.name ++ (txt x.topic ++ (txt x.want ++ (num x.lease ++ (num x.most ++ num x.floor))))
def s2 (x : Sub) : Row := ⟨rkey 2 115 x.id 0, sB2 x⟩
def x2 (id : Int) (m : Msg) : List Row := if m.prio ≠ 0 ∨ m.dead = true then [⟨rkey 2 120 id m.seq, xB m⟩] else []
def enc2 (x : Sub) : List Row := ack2 x ++ x.queue.map (b2 x.id) ++ note2 x ++ x.queue.map (q2 x.id) ++ [s2 x] ++ x.queue.flatMap (x2 x.id)
end Go.Proofs.YtkbmkhhcppfcnaaGreatDoor
end
section
set_option linter.unusedVariables false
namespace Go.Proofs.YtkbmkhhcppfcnaaGreatDoor
open Go.Al
def n2 (v : List UInt8) (s : Nat × Bool) : Nat × Nat × Bool :=
  if s.2 = true ∨ (getNum v s.1).2.2 ≠ 0 then (0, s.1, true) else ((getNum v s.1).1, (getNum v s.1).2.1, false)
def t2 (v : List UInt8) (s : Nat × Bool) (most : Nat) : List UInt8 × Nat × Bool :=
  if s.2 = true ∨ (getText v s.1 most).2.2 ≠ 0 then ([], s.1, true) else ((getText v s.1 most).1, (getText v s.1 most).2.1, false)
def gp2 (v : List UInt8) : Nat → Nat × Bool → List Int → List Int × Nat × Bool
  | 0, s, acc => (acc, s)
  | n + 1, s, acc => if s.2 = true then (acc, s) else gp2 v n (n2 v s).2 (acc ++ [((n2 v s).1 : Int)])
def mB (v : List UInt8) (m : Msg) : Msg := { m with body := (t2 v (0, false) 60).1 }
def mQ (v : List UInt8) (m : Msg) : Msg :=
  let p1 := t2 v (0, false) 30
  let p2 := n2 v p1.2
  let p3 := n2 v p2.2
  let p4 := n2 v p3.2
  { m with attr := p1.1, tries := p2.1, until_ := p3.1, dead := decide ((p4.1 : Int) = 1) }
def mX (v : List UInt8) (m : Msg) : Msg :=
  let p1 := n2 v (0, false)
  let p2 := n2 v p1.2
  { m with prio := p1.1, why := whyN (min p2.1 2) }
def sS (v : List UInt8) (x : Sub) : Sub :=
  let p1 := t2 v (0, false) 30
  let p2 := t2 v p1.2 30
  let p3 := t2 v p2.2 30
  let p4 := n2 v p3.2
  let p5 := n2 v p4.2
  let p6 := n2 v p5.2
  { x with name := p1.1, topic := p2.1, want := p3.1, lease := p4.1, most := p5.1, floor := p6.1 }
def msg0 (seq : Int) : Msg := ⟨seq, [], [], 0, 0, false, [], 0⟩
def updF (seq : Int) (f : Msg → Msg) : List Msg → List Msg
  | [] => []
  | m :: l => if m.seq = seq then f m :: l else m :: updF seq f l
def add2 (x : Sub) (r : Row) : Sub :=
  let p := parts r.key
  let x := { x with id := p.id }
  if p.t = 97 then { x with acks := (gp2 r.val (n2 r.val (0, false)).1 (n2 r.val (0, false)).2 x.acks).1 }
  else if p.t = 98 then { x with queue := updF p.seq (mB r.val) (x.queue ++ [msg0 p.seq]) }
  else if p.t = 110 then { x with note := (t2 r.val (0, false) 30).1 }
  else if p.t = 113 then { x with queue := updF p.seq (mQ r.val) x.queue }
  else if p.t = 115 then sS r.val x
  else if p.t = 120 then { x with queue := updF p.seq (mX r.val) x.queue }
  else x
def rows2 (l : List Row) : Sub := l.foldl add2 sub0
def fin2 (l : List Row) : Sub := let x := rows2 l; { x with acks := runUp x.floor x.acks }
def dec2 (l : List Row) : Sub × Nat := if upTo l l.length = true ∧ enc2 (fin2 l) = l then (fin2 l, 0) else (sub0, 11)
theorem n2_far (v : List UInt8) (s : Nat × Bool) : (n2 v s).2.1 ≤ max s.1 v.length := by
  unfold n2
  split
  · exact Nat.le_max_left ..
  · have := (getNum_le v s.1).1
    simp only; omega
theorem t2_far (v : List UInt8) (s : Nat × Bool) (most : Nat) : (t2 v s most).2.1 ≤ max s.1 v.length := by
  unfold t2
  split
  · exact Nat.le_max_left ..
  · have := (getText_far v s.1 most).1
    simp only; omega
theorem t2_len (v : List UInt8) (s : Nat × Bool) (most : Nat) : (t2 v s most).1.length ≤ most := by
  unfold t2
  split
  · simp
  · exact (getText_far v s.1 most).2
theorem n2_max (v : List UInt8) (s : Nat × Bool) : (n2 v s).1 ≤ 9007199254740992 := by
  unfold n2
  split
  · simp
  · exact (getNum_le v s.1).2.1
end Go.Proofs.YtkbmkhhcppfcnaaGreatDoor
end
section
set_option linter.unusedVariables false
set_option linter.unusedSimpArgs false
namespace Go.Proofs.YtkbmkhhcppfcnaaGreatDoor
open Go.Al
structure F2 (x : Sub) (n m : Nat) : Prop where
  name : x.name.length ≤ 1000
  topic : x.topic.length ≤ 1000
  want : x.want.length ≤ 1000
  note : x.note.length ≤ 1000
  acks : x.acks.length ≤ n
  queue : x.queue.length ≤ m
  msgs : ∀ m ∈ x.queue, m.body.length ≤ 1000 ∧ m.attr.length ≤ 1000
theorem n2_step (v : List UInt8) (s : Nat × Bool) : (n2 v s).2.2 = false → s.1 < (n2 v s).2.1 ∧ (n2 v s).2.1 ≤ v.length := by
  unfold n2
  split
  · intro h; cases h
  · rename_i hc
    intro _
    simp at hc
    exact ⟨getNum_gt v s.1 hc.2, (getNum_le v s.1).1⟩
theorem g2_len : ∀ (v : List UInt8) (n : Nat) (s : Nat × Bool) (acc : List Int), (s.2 = false → s.1 ≤ v.length) → (gp2 v n s acc).1.length ≤ acc.length + (v.length - s.1) + 1
  | v, 0, s, acc, _ => by simp [gp2]; omega
  | v, n + 1, s, acc, h => by
    rw [gp2]
    split
    · simp; omega
    · rename_i hs
      have hs' : s.2 = false := by simpa using hs
      have h0 := h hs'
      by_cases hb : (n2 v s).2.2 = false
      · have h1 := n2_step v s hb
        have := g2_len v n (n2 v s).2 (acc ++ [((n2 v s).1 : Int)]) (fun _ => h1.2)
        rw [List.length_append, List.length_singleton] at this
        omega
      · have hb' : (n2 v s).2.2 = true := by simpa using hb
        cases n with
        | zero => simp [gp2]
        | succ n => rw [gp2, if_pos hb']; simp
theorem updF_len (seq : Int) (f : Msg → Msg) : ∀ l : List Msg, (updF seq f l).length = l.length
  | [] => rfl
  | m :: l => by rw [updF]; split <;> simp [updF_len seq f l]
theorem updF_mem (seq : Int) (f : Msg → Msg) : ∀ (l : List Msg) (m : Msg), m ∈ updF seq f l → m ∈ l ∨ ∃ m' ∈ l, m = f m'
  | [], m, h => by simp [updF] at h
  | a :: l, m, h => by
    rw [updF] at h
    split at h
    · rcases List.mem_cons.1 h with rfl | h
      · exact .inr ⟨a, by simp, rfl⟩
      · exact .inl (by simp [h])
    · rcases List.mem_cons.1 h with rfl | h
      · exact .inl (by simp)
      · rcases updF_mem seq f l m h with h | ⟨m', h1, h2⟩
        · exact .inl (by simp [h])
        · exact .inr ⟨m', by simp [h1], h2⟩
theorem upd_fit {seq : Int} {f : Msg → Msg} {l : List Msg} (h : ∀ m ∈ l, m.body.length ≤ 1000 ∧ m.attr.length ≤ 1000) (hf : ∀ m : Msg, m.body.length ≤ 1000 ∧ m.attr.length ≤ 1000 → (f m).body.length ≤ 1000 ∧ (f m).attr.length ≤ 1000) : ∀ m ∈ updF seq f l, m.body.length ≤ 1000 ∧ m.attr.length ≤ 1000 := fun m hm => by
  rcases updF_mem seq f l m hm with h1 | ⟨m', h1, rfl⟩
  · exact h m h1
  · exact hf m' (h m' h1)
theorem add2_fit {x : Sub} {n m : Nat} (h : F2 x n m) (r : Row) : F2 (add2 x r) (n + r.val.length + 1) (m + 1) := by
  have ha := h.acks
  have hq := h.queue
  have tl := fun s k => t2_len r.val s k
  unfold add2
  dsimp only
  split
  · refine ⟨h.name, h.topic, h.want, h.note, ?_, by show x.queue.length ≤ m + 1; omega, h.msgs⟩
    have := g2_len r.val (n2 r.val (0, false)).1 (n2 r.val (0, false)).2 x.acks (fun hf => (n2_step r.val (0, false) hf).2)
    show (gp2 _ _ _ _).1.length ≤ _
    omega
  · split
    · refine ⟨h.name, h.topic, h.want, h.note, by show x.acks.length ≤ _; omega, by show (updF _ _ _).length ≤ _; rw [updF_len]; simp; omega, upd_fit (fun m hm => ?_) fun m hm => ⟨Nat.le_trans (tl _ _) (by decide), hm.2⟩⟩
      rcases List.mem_append.1 hm with hm | hm
      · exact h.msgs m hm
      · obtain rfl := List.mem_singleton.1 hm; simp [msg0]
    · split
      · exact ⟨h.name, h.topic, h.want, Nat.le_trans (tl _ _) (by decide), by show x.acks.length ≤ _; omega, by show x.queue.length ≤ m + 1; omega, h.msgs⟩
      · split
        · exact ⟨h.name, h.topic, h.want, h.note, by show x.acks.length ≤ _; omega, by show (updF _ _ _).length ≤ _; rw [updF_len]; omega, upd_fit h.msgs fun m hm => ⟨hm.1, Nat.le_trans (tl _ _) (by decide)⟩⟩
        · split
          · exact ⟨Nat.le_trans (tl _ _) (by decide), Nat.le_trans (tl _ _) (by decide), Nat.le_trans (tl _ _) (by decide), h.note, by show x.acks.length ≤ _; omega, by show x.queue.length ≤ m + 1; omega, h.msgs⟩
          · split
            · exact ⟨h.name, h.topic, h.want, h.note, by show x.acks.length ≤ _; omega, by show (updF _ _ _).length ≤ _; rw [updF_len]; omega, upd_fit h.msgs fun m hm => hm⟩
            · exact ⟨h.name, h.topic, h.want, h.note, by show x.acks.length ≤ _; omega, by show x.queue.length ≤ m + 1; omega, h.msgs⟩
theorem rows2_snoc {l : List Row} {i : Nat} {r : Row} (h : l[i]? = some r) : rows2 (l.take (i + 1)) = add2 (rows2 (l.take i)) r := by
  rw [take_snoc h, rows2, List.foldl_append]; rfl
theorem rows2_fit (l : List Row) : ∀ i, i ≤ l.length → F2 (rows2 (l.take i)) (tot (l.take i)) i
  | 0, _ => ⟨by simp [rows2, sub0], by simp [rows2, sub0], by simp [rows2, sub0], by simp [rows2, sub0], by simp [rows2, sub0], by simp [rows2, sub0], by simp [rows2, sub0]⟩
  | i + 1, hi => by
    have h := rows2_fit l i (by omega)
    have hg : l[i]? = some l[i] := by simp [show i < l.length by omega]
    rw [rows2_snoc hg, tot_take hg]
    exact add2_fit h l[i]
theorem fin2_fits (l : List Row) (h : tot l ≤ 100000) : Fits (fin2 l) := by
  have hf := rows2_fit l l.length (Nat.le_refl _)
  have hl := tot_len l
  have ht := hf.acks
  have hq := hf.queue
  rw [List.take_length] at hf ht hq
  exact ⟨hf.name, hf.topic, hf.want, hf.note, by show (runUp _ _).length ≤ _; rw [runUp_len]; omega, by show (rows2 l).queue.length ≤ _; omega, hf.msgs⟩
end Go.Proofs.YtkbmkhhcppfcnaaGreatDoor
end
section
set_option linter.unusedVariables false
set_option linter.unusedSimpArgs false
namespace Go.Proofs.YtkbmkhhcppfcnaaGreatDoor
open Go.Al
def msg1 (v : List UInt8) (seq : Int) : Msg :=
  let p1 := t2 v (0, false) 60
  let p2 := t2 v p1.2 30
  let p3 := n2 v p2.2
  let p4 := n2 v p3.2
  let p5 := n2 v p4.2
  ⟨seq, p1.1, p2.1, p3.1, p4.1, decide ((p5.1 : Int) = 1), [], 0⟩
def sS1 (v : List UInt8) (x : Sub) : Sub :=
  let p1 := t2 v (0, false) 30
  let p2 := t2 v p1.2 30
  let p4 := n2 v p2.2
  let p5 := n2 v p4.2
  let p6 := n2 v p5.2
  { x with name := p1.1, topic := p2.1, lease := p4.1, most := p5.1, floor := p6.1 }
def more1 (v : List UInt8) (seq : Int) : List Msg → Nat × Bool → List Msg
  | [], _ => []
  | m :: l, s => if m.seq = seq then { m with prio := ((n2 v s).1 : Nat), why := whyN (min (n2 v (n2 v s).2).1 2) } :: more1 v seq l (n2 v (n2 v s).2).2 else m :: more1 v seq l s
def tell1 (t : UInt8) (seq : Int) (v : List UInt8) (x : Sub) : Sub :=
  if t = 97 then { x with acks := x.acks ++ [seq] }
  else if t = 110 then { x with note := (t2 v (0, false) 30).1 }
  else if t = 113 then { x with queue := x.queue ++ [msg1 v seq] }
  else if t = 115 then sS1 v x
  else if t = 119 then { x with want := (t2 v (0, false) 30).1 }
  else if t = 120 then { x with queue := more1 v seq x.queue (0, false) }
  else x
def add1 (x : Sub) (r : Row) : Sub := tell1 (parts r.key).t (parts r.key).seq r.val { x with id := (parts r.key).id }
def rows1 (l : List Row) : Sub := l.foldl add1 sub0
def dec1 (l : List Row) : Sub × Nat := if upTo l l.length = true ∧ enc1 (rows1 l) = l then (rows1 l, 0) else (sub0, 11)
theorem more1_len (v : List UInt8) (seq : Int) : ∀ (l : List Msg) (s : Nat × Bool), (more1 v seq l s).length = l.length
  | [], _ => rfl
  | m :: l, s => by rw [more1]; split <;> simp [more1_len v seq l]
theorem more1_mem (v : List UInt8) (seq : Int) : ∀ (l : List Msg) (s : Nat × Bool) (m : Msg), m ∈ more1 v seq l s → ∃ m' ∈ l, m.body = m'.body ∧ m.attr = m'.attr
  | [], s, m, h => by simp [more1] at h
  | a :: l, s, m, h => by
    rw [more1] at h
    split at h
    · rcases List.mem_cons.1 h with rfl | h
      · exact ⟨a, by simp, rfl, rfl⟩
      · obtain ⟨m', h1, h2⟩ := more1_mem v seq l _ m h
        exact ⟨m', by simp [h1], h2⟩
    · rcases List.mem_cons.1 h with rfl | h
      · exact ⟨m, by simp, rfl, rfl⟩
      · obtain ⟨m', h1, h2⟩ := more1_mem v seq l _ m h
        exact ⟨m', by simp [h1], h2⟩
theorem tell1_fit {x : Sub} {n : Nat} (h : F2 x n n) (t : UInt8) (seq : Int) (v : List UInt8) : F2 (tell1 t seq v x) (n + 1) (n + 1) := by
  have ha := h.acks
  have hq := h.queue
  have tl := fun s k => t2_len v s k
  unfold tell1
  split
  · exact ⟨h.name, h.topic, h.want, h.note, by show (x.acks ++ [seq]).length ≤ _; simp; omega, by show x.queue.length ≤ _; omega, h.msgs⟩
  · split
    · exact ⟨h.name, h.topic, h.want, Nat.le_trans (tl _ _) (by decide), by show x.acks.length ≤ _; omega, by show x.queue.length ≤ _; omega, h.msgs⟩
    · split
      · refine ⟨h.name, h.topic, h.want, h.note, by show x.acks.length ≤ _; omega, by show (x.queue ++ _).length ≤ _; simp; omega, fun m hm => ?_⟩
        rcases List.mem_append.1 hm with hm | hm
        · exact h.msgs m hm
        · obtain rfl := List.mem_singleton.1 hm
          exact ⟨Nat.le_trans (tl _ _) (by decide), Nat.le_trans (tl _ _) (by decide)⟩
      · split
        · exact ⟨Nat.le_trans (tl _ _) (by decide), Nat.le_trans (tl _ _) (by decide), h.want, h.note, by show x.acks.length ≤ _; omega, by show x.queue.length ≤ _; omega, h.msgs⟩
        · split
          · exact ⟨h.name, h.topic, Nat.le_trans (tl _ _) (by decide), h.note, by show x.acks.length ≤ _; omega, by show x.queue.length ≤ _; omega, h.msgs⟩
          · split
            · refine ⟨h.name, h.topic, h.want, h.note, by show x.acks.length ≤ _; omega, by show (more1 _ _ _ _).length ≤ _; rw [more1_len]; omega, fun m hm => ?_⟩
              obtain ⟨m', h1, h2, h3⟩ := more1_mem _ _ _ _ m hm
              rw [h2, h3]; exact h.msgs m' h1
            · exact ⟨h.name, h.topic, h.want, h.note, by omega, by omega, h.msgs⟩
theorem rows1_snoc {l : List Row} {i : Nat} {r : Row} (h : l[i]? = some r) : rows1 (l.take (i + 1)) = add1 (rows1 (l.take i)) r := by
  rw [take_snoc h, rows1, List.foldl_append]; rfl
theorem rows1_fit (l : List Row) : ∀ i, i ≤ l.length → F2 (rows1 (l.take i)) i i
  | 0, _ => ⟨by simp [rows1, sub0], by simp [rows1, sub0], by simp [rows1, sub0], by simp [rows1, sub0], by simp [rows1, sub0], by simp [rows1, sub0], by simp [rows1, sub0]⟩
  | i + 1, hi => by
    have h := rows1_fit l i (by omega)
    have hg : l[i]? = some l[i] := by simp [show i < l.length by omega]
    rw [rows1_snoc hg]
    exact tell1_fit (x := { rows1 (l.take i) with id := (parts l[i].key).id }) ⟨h.name, h.topic, h.want, h.note, h.acks, h.queue, h.msgs⟩ _ _ _
theorem rows1_fits (l : List Row) (h : l.length ≤ 100000) : Fits (rows1 l) := by
  have hf := rows1_fit l l.length (Nat.le_refl _)
  rw [List.take_length] at hf
  exact ⟨hf.name, hf.topic, hf.want, hf.note, Nat.le_trans hf.acks h, Nat.le_trans hf.queue h, hf.msgs⟩
end Go.Proofs.YtkbmkhhcppfcnaaGreatDoor
end
section
set_option linter.unusedVariables false
set_option linter.unusedSimpArgs false
set_option maxRecDepth 100000
set_option maxHeartbeats 1000000
namespace Go.Proofs.YtkbmkhhcppfcnaaGreatDoor
open Go.Al Go.RowKit
theorem flag2_any (w0 : Base) (b : Bool) : CallP Tryz.prog w0 26 [.bool b] (.int .i64 (if b = true then 1 else 0)) := by
  refine CallP.x Ty.tok Ty.mixed Tryz.func26 rfl Tryz.ntmps26 rfl (by simp) (by decide +kernel) fun σ => ?_
  (conv => whnf)
  (refine SIf.x Ty.mixed (fun hc => ?_) (fun hc => ?_) <;> (conv => whnf))
  rotate_left; rotate_left
  all_goals exact .p (.refl _) (by simp [hc])
theorem deaths2_any (w0 : Base) : CallP Tryz.prog w0 66 [] (.slc 1 [.str [], .str [110, 97, 99, 107], .str [116, 105, 109, 101]] .full) := by
  refine CallP.x Ty.tok Ty.mixed Tryz.func66 rfl Tryz.ntmps66 rfl (by simp) (by decide +kernel) fun σ => ?_
  (conv => whnf)
  skip
  exact .p (.refl _) rfl
theorem bytesEqX_any (w0 : Base) (a b : List UInt8) (ta tb : Tok) : CallP Tryz.prog w0 74 [.slc 1 (aBytes a) ta, .slc 1 (aBytes b) tb] (.bool (decide (a = b))) := by
  refine CallP.x Ty.tok Ty.mixed Tryz.func74 rfl Tryz.ntmps74 rfl (by simp) (by decide +kernel) fun σ => ?_
  (conv => whnf); refine ⟨_, toBytes_aBytes _, ?_⟩; (conv => whnf); refine ⟨_, toBytes_aBytes _, ?_⟩; (conv => whnf); exact .p (.refl _) rfl
theorem same2_any (w0 : Base) (x y : Row) : CallP Tryz.prog w0 52 [eRow x, eRow y] (.bool (decide (x = y))) := by
  refine CallP.x Ty.tok Ty.mixed Tryz.func52 rfl Tryz.ntmps52 rfl (by simp) (by decide +kernel) fun σ => ?_
  (conv => whnf); refine SBox.f ?_; (conv => whnf); refine SBox.f ?_; (conv => whnf)
  (refine SCond.mk (fun hc => ?_) (fun hc => ?_) <;> (conv => whnf))
  refine SCond.y (by assumption) ?_; (conv => whnf); refine SCond.y (by assumption) ?_; (conv => whnf); refine SCond.y (by assumption) ?_; (conv => whnf); refine SCond.y (by assumption) ?_; (conv => whnf); refine SCall.p (by exact bytesEqX_any w0 _ _ _ _) ?_; (conv => whnf); refine SPick.y (by assumption) ?_; (conv => whnf); rotate_left; refine SCond.n (by assumption) ?_; (conv => whnf)
  refine SCond.n (by assumption) ?_; (conv => whnf); refine SCond.n (by assumption) ?_; (conv => whnf); refine SCond.n (by assumption) ?_; (conv => whnf); refine SPick.n (by assumption) ?_; (conv => whnf); rotate_left
  · refine .p (.refl _) ?_
    have h1 : x.key = y.key := by simpa using hc
    have : (x.val = y.val) ↔ x = y := ⟨fun h => row_ext h1 h, fun h => by rw [h]⟩
    simp only [this]
  · refine .p (.refl _) ?_
    have : ¬ x = y := fun e => by subst e; simp at *
    simp [this]
theorem death2_any (w0 : Base) (m : Msg) : CallP Tryz.prog w0 28 [eMsg m] (.int .i64 (deathN m)) := by
  refine CallP.x Ty.tok Ty.mixed Tryz.func28 rfl Tryz.ntmps28 rfl (by simp) (by decide +kernel) fun σ => ?_
  (conv => whnf); refine SBox.f ?_; (conv => whnf)
  (refine SIf.x Ty.mixed (fun hc => ?_) (fun hc => ?_) <;> (conv => whnf))
  rotate_left; refine SReg.t 0 [] (by decide +kernel) ?_; (conv => whnf); refine SCall.p (by exact deaths2_any w0) ?_; (conv => whnf)
  refine ⟨_, ⟨by first | omega | (simp only [List.length_cons, List.length_append, List.length_nil, List.length_map, length_aBytes, List.length_replicate, List.length_range]; omega) | fail, by rfl⟩, ?_⟩
  (conv => whnf)
  (refine SIf.x Ty.mixed (fun hc => ?_) (fun hc => ?_) <;> (conv => whnf))
  rotate_left; rotate_left
  all_goals refine .p (.refl _) ?_
  all_goals simp_all [deathN]
theorem form2_room (w0 : Base) (l : List Fm) (hl : FmOk l) (σ : St) : CallW Tryz.prog w0 24 [.slc 1 (l.map eFm) .no] σ (fun r s => ∃ tk', r = .slc 1 (aBytes (fB l)) tk' ∧ Moves σ .full s tk') := by
  refine CallW.x Ty.tok Ty.mixed Tryz.func24 rfl Tryz.ntmps24 rfl (by simp) (by decide +kernel) (.nil σ) ?_
  obtain ⟨h1, h2⟩ := hl
  (conv => whnf)
  skip
  refine SLoop.by Ty.mixed (fun (a : Nat × Tok) => l.length - a.1) (fun (i, tk) => [(3, .slc 1 (aBytes (fB (l.take i))) tk), (8, .slc 1 (l.map eFm) .no), (9, .int .i64 l.length), (10, .int .i64 i)]) (fun _ => []) (fun (i, tk) s => i ≤ l.length ∧ Moves σ .full s tk) (0, .full) ⟨?_, BSub.none _, Nat.zero_le _, .full σ⟩ ?_
  · show xWeak [(3, .slc 1 (aBytes (fB (l.take 0))) .full), (8, .slc 1 (l.map eFm) .no), (9, .int .i64 l.length), (10, .int .i64 (0 : Nat))] _
    rw [List.length_map]
    repeat (first | exact trivial | refine ⟨by first | trivial | exact Weak.refl _ | exact Weak.tok _ _ _ | exact Weak.of_eq (congrArg (AV.int _) (by omega)) | exact Weak.of_eq (congrArg AV.bool (by fail)) | exact Weak.nils _ _ (.inr rfl), ?_⟩)
  rintro ⟨i, tk⟩ s ⟨hi, hm⟩; (conv => whnf)
  skip
  (refine SIf.x Ty.mixed (fun hc => ?_) (fun hc => ?_) <;> (conv => whnf))
  · have hlt : i < l.length := by simp at hc; omega
    have ga : l[i]? = some l[i] := by simp [hlt]
    have hd : fB (l.take (i + 1)) = fB (l.take i) ++ f1 l[i] := by rw [fB_eq, fB_eq]; exact flat_take_snoc f1 ga
    have hb : (fB (l.take i)).length ≤ 2000000 := by
      have := fB_len (l := l.take i) fun x hx => h2 x (List.mem_of_mem_take hx)
      have := List.length_take_le i l
      have : (l.take i).length ≤ l.length := by simp; omega
      omega
    have hx := h2 l[i] (List.getElem_mem hlt)
    generalize l[i] = x at ga hd hx
    have ga' := get_map (f := eFm) ga
    cases x with
    | s v =>
      have hv : v.length ≤ 2000 := by simp only [f1, txt, List.length_append] at hx; omega
      simp only [f1] at hd hx
      refine ⟨_, ⟨by first | omega | (simp only [List.length_cons, List.length_append, List.length_nil, List.length_map, length_aBytes, List.length_replicate, List.length_range]; omega) | fail, by exact ga'⟩, ?_⟩
      (conv => whnf); refine SIf.y Ty.mixed (by exact rfl) ?_; (conv => whnf); refine SCall.p (by exact text_p w0 _ (by omega)) ?_; (conv => whnf)
      refine SApp.c rfl rfl (by assumption) (by simp only [length_aBytes, List.length_append, List.length_cons, List.length_nil, List.length_map, List.length_range]; omega) fun tk1 σ1 hm => ?_
      (conv => whnf); refine ⟨_, IntWalk.i64_in _ (by omega), ?_⟩; (conv => whnf)
      refine ⟨(i + 1, tk1), by show l.length - (i + 1) < l.length - i; omega, ?_, BSub.none _, by omega, hm⟩
      show xWeak [(3, .slc 1 (aBytes (fB (l.take (i + 1)))) tk1), (8, .slc 1 (l.map eFm) .no), (9, .int .i64 l.length), (10, .int .i64 (i + 1 : Nat))] _
      rw [hd, aBytes_append]
      repeat (first | exact trivial | refine ⟨by first | trivial | exact Weak.refl _ | exact Weak.tok _ _ _ | exact Weak.of_eq (congrArg (AV.int _) (by omega)) | exact Weak.of_eq (congrArg AV.bool (by fail)) | exact Weak.nils _ _ (.inr rfl), ?_⟩)
    | n k =>
      simp only [f1] at hd hx
      refine ⟨_, ⟨by first | omega | (simp only [List.length_cons, List.length_append, List.length_nil, List.length_map, length_aBytes, List.length_replicate, List.length_range]; omega) | fail, by exact ga'⟩, ?_⟩
      (conv => whnf); refine SIf.n Ty.mixed (by exact rfl) ?_; (conv => whnf); refine SIf.y Ty.mixed (by exact rfl) ?_; (conv => whnf); refine SCall.p (by exact num_p w0 _) ?_; (conv => whnf)
      refine SApp.c rfl rfl (by assumption) (by simp only [length_aBytes, List.length_append, List.length_cons, List.length_nil, List.length_map, List.length_range]; omega) fun tk1 σ1 hm => ?_
      (conv => whnf); refine ⟨_, IntWalk.i64_in _ (by omega), ?_⟩; (conv => whnf)
      refine ⟨(i + 1, tk1), by show l.length - (i + 1) < l.length - i; omega, ?_, BSub.none _, by omega, hm⟩
      show xWeak [(3, .slc 1 (aBytes (fB (l.take (i + 1)))) tk1), (8, .slc 1 (l.map eFm) .no), (9, .int .i64 l.length), (10, .int .i64 (i + 1 : Nat))] _
      rw [hd, aBytes_append]
      repeat (first | exact trivial | refine ⟨by first | trivial | exact Weak.refl _ | exact Weak.tok _ _ _ | exact Weak.of_eq (congrArg (AV.int _) (by omega)) | exact Weak.of_eq (congrArg AV.bool (by fail)) | exact Weak.nils _ _ (.inr rfl), ?_⟩)
  · have hge : i = l.length := by simp at hc; omega
    subst hge
    skip
    rw [List.take_length]
    exact .w ⟨tk, rfl, hm⟩
theorem form2_p (w0 : Base) (l : List Fm) (hl : FmOk l) : CallP Tryz.prog w0 24 [.slc 1 (l.map eFm) .no] (.slc 1 (aBytes (fB l)) .no) := fun σ => (form2_room w0 l hl σ).room
theorem form2_t (w0 : Base) (l : List Fm) (hl : FmS l) (hn : l.length ≤ 1000) (tk : Tok) {bs : List UInt8} (hb : fB l = bs) : CallP Tryz.prog w0 24 [.slc 1 (l.map eFm) tk] (.slc 1 (aBytes bs) .no) :=
  fun σ => hb ▸ CallW.weak1 [] [] (.tok 1 (l.map eFm) tk) (form2_p w0 l ⟨hn, hl.ok⟩ σ)
theorem form2_c (w0 : Base) (l : List Fm) (hl : FmS l) (hn : l.length ≤ 1000) (tk : Tok) {bs : List UInt8} (hb : fB l = bs) (σ : St) : CallW Tryz.prog w0 24 [.slc 1 (l.map eFm) tk] σ (fun r s => ∃ tk', r = .slc 1 (aBytes bs) tk' ∧ Moves σ .full s tk') :=
  hb ▸ CallW.weak1 [] [] (.tok 1 (l.map eFm) tk) (form2_room w0 l ⟨hn, hl.ok⟩ σ)
end Go.Proofs.YtkbmkhhcppfcnaaGreatDoor
end
section
set_option linter.unusedVariables false
set_option linter.unusedSimpArgs false
set_option maxRecDepth 100000
set_option maxHeartbeats 1000000
namespace Go.Proofs.YtkbmkhhcppfcnaaGreatDoor
open Go.Al Go.RowKit
theorem rising2_any (w0 : Base) (l : List Row) (tk : Tok) (hl : l.length ≤ 1000000) : CallP Tryz.prog w0 51 [.slc 2 (l.map eRow) tk] (.bool (upTo l l.length)) := by
  refine CallP.x Ty.tok Ty.mixed Tryz.func51 rfl Tryz.ntmps51 rfl (by simp) (by decide +kernel) fun σ => ?_
  (conv => whnf)
  skip
  refine SLoop.by Ty.mixed (fun i => l.length - i) (fun i => [(0, .slc 2 (l.map eRow) .no), (5, .int .i64 l.length), (6, .int .i64 i)]) (fun _ => []) (fun i s => i ≤ l.length ∧ upTo l i = true ∧ s = σ) 0 ⟨?_, BSub.none _, Nat.zero_le _, rfl, rfl⟩ ?_
  · show xWeak [(0, .slc 2 (l.map eRow) .no), (5, .int .i64 l.length), (6, .int .i64 (0 : Nat))] _
    rw [List.length_map]
    repeat (first | exact trivial | refine ⟨by first | trivial | exact Weak.refl _ | exact Weak.tok _ _ _ | exact Weak.of_eq (congrArg (AV.int _) (by omega)) | exact Weak.of_eq (congrArg AV.bool (by fail)) | exact Weak.nils _ _ (.inr rfl), ?_⟩)
  rintro i s ⟨hi, hu, rfl⟩; (conv => whnf)
  skip
  (refine SIf.x Ty.mixed (fun hc => ?_) (fun hc => ?_) <;> (conv => whnf))
  · have hlt : i < l.length := by simp at hc; omega
    have ga : l[i]? = some l[i] := by simp [hlt]
    have hup : upTo l (i + 1) = (upTo l i && (decide (i = 0) || !leS ((l[i]?.getD ⟨[], []⟩).key) ((l[i - 1]?.getD ⟨[], []⟩).key))) := rfl
    by_cases h0 : i = 0
    · subst h0
      have d3 : decide ((0 : Int) < ((0 : Nat) : Int)) = false := rfl
      refine SReg.d [0, 1, 2, 3, 4, 5, 6, 7, 8, 9, 10, 11, 12, 13, 14, 15] [0, 0, 0, 0, 0, 0, 0, 0, 0, 0, 0, 0, 0, 0, 0, 0] (by decide +kernel) ?_; (conv => whnf); (conv => whnf); refine SCond.n (by exact rfl) ?_; (conv => whnf); refine SCond.n (by exact rfl) ?_; (conv => whnf); refine SCond.n (by exact rfl) ?_; (conv => whnf); refine SCond.n (by exact rfl) ?_; (conv => whnf); refine SCond.n (by exact rfl) ?_; (conv => whnf); refine SCond.n (by exact rfl) ?_; (conv => whnf)
      refine SCond.n (by exact rfl) ?_; (conv => whnf); refine SCond.n (by exact rfl) ?_; (conv => whnf); refine SCond.n (by exact rfl) ?_; (conv => whnf); refine SCond.n (by exact rfl) ?_; (conv => whnf); refine SCond.n (by exact rfl) ?_; (conv => whnf); refine SCond.n (by exact rfl) ?_; (conv => whnf); refine SPick.n (by exact rfl) ?_; (conv => whnf); refine SIf.n Ty.mixed (by exact rfl) ?_
      (conv => whnf); refine ⟨_, IntWalk.i64_in _ (by omega), ?_⟩; (conv => whnf)
      exact ⟨0 + 1, by omega, ⟨by repeat (first | exact trivial | refine ⟨by first | trivial | exact Weak.refl _ | exact Weak.tok _ _ _ | exact Weak.of_eq (congrArg (AV.int _) (by omega)) | exact Weak.of_eq (congrArg AV.bool (by fail)) | exact Weak.nils _ _ (.inr rfl), ?_⟩), BSub.none _, by omega, rfl, rfl⟩⟩
    · have d3 : decide ((0 : Int) < (i : Int)) = true := decide_eq_true (by omega)
      have gp : l[((i : Int) - 1).toNat]? = some (l[i - 1]'(by omega)) := by rw [show ((i : Int) - 1).toNat = i - 1 by omega]; simp
      have gp' : l[i - 1]? = some (l[i - 1]'(by omega)) := by simp
      rw [hu, ga, gp', Option.getD_some, Option.getD_some] at hup
      generalize l[i] = x at ga hup
      generalize l[i - 1]'(by omega) = y at gp hup gp'
      refine SReg.d [0, 1, 2, 3, 4, 5, 6, 7, 8, 9, 10, 11, 12, 13, 14, 15] [0, 0, 0, 0, 0, 0, 0, 0, 0, 0, 0, 0, 0, 0, 0, 0] (by decide +kernel) ?_; (conv => whnf); (conv => whnf); refine SCond.y (by assumption) ?_; (conv => whnf); refine SCond.y (by assumption) ?_; (conv => whnf); refine SCond.y (by assumption) ?_; (conv => whnf)
      refine ⟨_, ⟨by first | omega | (simp only [List.length_cons, List.length_append, List.length_nil, List.length_map, length_aBytes, List.length_replicate, List.length_range]; omega) | fail, by first | exact get_map ga | exact get_map gp | fail⟩, ?_⟩
      (conv => whnf); refine SCond.y (by assumption) ?_; (conv => whnf); refine SCond.y (by assumption) ?_; (conv => whnf); refine SCond.y (by assumption) ?_; (conv => whnf); refine SCond.y (by assumption) ?_; (conv => whnf); refine SCond.y (by assumption) ?_; (conv => whnf); refine ⟨_, IntWalk.i64_in _ (by omega), ?_⟩; (conv => whnf); refine SCond.y (by assumption) ?_; (conv => whnf)
      refine ⟨_, ⟨by first | omega | (simp only [List.length_cons, List.length_append, List.length_nil, List.length_map, length_aBytes, List.length_replicate, List.length_range]; omega) | fail, by first | exact get_map ga | exact get_map gp | fail⟩, ?_⟩
      (conv => whnf); refine SCond.y (by assumption) ?_; (conv => whnf); refine SCond.y (by assumption) ?_; (conv => whnf); refine SCond.y (by assumption) ?_; (conv => whnf); refine SPick.y (by assumption) ?_; (conv => whnf)
      (refine SIf.x Ty.mixed (fun hc => ?_) (fun hc => ?_) <;> (conv => whnf))
      · skip
        refine .p (.refl _) ?_
        have : upTo l (i + 1) = false := by rw [hup]; simp only [leS]; rw [hc]; simp [h0]
        rw [upTo_false (show i + 1 ≤ l.length by omega) this]
      · refine ⟨_, IntWalk.i64_in _ (by omega), ?_⟩
        (conv => whnf)
        refine ⟨i + 1, by omega, ⟨by repeat (first | exact trivial | refine ⟨by first | trivial | exact Weak.refl _ | exact Weak.tok _ _ _ | exact Weak.of_eq (congrArg (AV.int _) (by omega)) | exact Weak.of_eq (congrArg AV.bool (by fail)) | exact Weak.nils _ _ (.inr rfl), ?_⟩), BSub.none _, by omega, ?_, rfl⟩⟩
        rw [hup]; simp only [leS]; rw [hc]; simp
  · have hge : i = l.length := by simp at hc; omega
    subst hge
    skip
    exact .p (.refl _) (by rw [hu])
theorem less2_any (w0 : Base) (σ : St) (b : Nat) (n was : Int) (hb : σ.box b = some [.int .i64 was]) : CallW Tryz.prog w0 63 [.int .i64 n, .ptr b 0] σ (fun r s => r = .int .i64 (w64 (n - was)) ∧ s = σ.setBox b [.int .i64 n]) := by
  refine CallW.x (B := [(b, [.int .i64 was])]) Ty.tok Ty.mixed Tryz.func63 rfl Tryz.ntmps63 rfl (by simp) (by decide +kernel) ⟨by simpa using hb, by simp⟩ ?_
  (conv => whnf); refine SLoad.on 0 rfl ?_; (conv => whnf); refine SStore.on 0 rfl ?_; (conv => whnf); refine ⟨_, rfl, ?_⟩; (conv => whnf); exact .p (.refl _) rfl
theorem gaps2_p (w0 : Base) (fr : Int) (l : List Int) (tk : Tok) (hl : l.length ≤ 100000) : CallP Tryz.prog w0 22 [.int .i64 fr, .slc 1 (l.map (.int .i64)) tk] (.slc 1 (aBytes (num l.length ++ gapsB fr l)) .no) := by
  refine CallP.x Ty.tok Ty.mixed Tryz.func22 rfl Tryz.ntmps22 rfl (by simp) (by decide +kernel) fun σ => ?_
  (conv => whnf); refine SBox.b rfl ?_; (conv => whnf); intro b1 hb1; (conv => whnf)
  refine SCall.c (by exact form2_c (bs := num _) w0 [.n _] trivial (Nat.le_of_ble_eq_true rfl) _ rfl _) (by exact Moves.full _) rfl fun tk1 σ1 hm => ?_
  (conv => whnf)
  have hb0 := gapsB_len l fr
  have hn0 := num_len l.length
  rw [List.length_map]
  refine SLoop.by Ty.mixed (fun (a : Nat × Tok × List UInt8 × Int) => l.length - a.1) (fun (i, tk, acc, la) => [(5, .slc 1 (aBytes acc) tk), (6, .fn (.func 63) [] [.ptr b1 0]), (15, .slc 1 (l.map (.int .i64)) .no), (16, .int .i64 l.length), (17, .int .i64 i)]) (fun (i, tk, acc, la) => [(b1, [.int .i64 la])]) (fun (i, tk, acc, la) s => i ≤ l.length ∧ acc.length ≤ 8 + 8 * i ∧ num l.length ++ gapsB fr l = acc ++ gapsB la (l.drop i) ∧ Moves (σ.setBox b1 [.int .i64 la]) .full s tk) (0, tk1, num l.length, fr) ⟨?_, .refl _, Nat.zero_le _, by omega, by simp, hm⟩ ?_
  · show xWeak [(5, .slc 1 (aBytes (num l.length)) tk1), (6, .fn (.func 63) [] [.ptr b1 0]), (15, .slc 1 (l.map (.int .i64)) .no), (16, .int .i64 l.length), (17, .int .i64 (0 : Nat))] _
    repeat (first | exact trivial | refine ⟨by first | trivial | exact Weak.refl _ | exact Weak.tok _ _ _ | exact Weak.of_eq (congrArg (AV.int _) (by omega)) | exact Weak.of_eq (congrArg AV.bool (by fail)) | exact Weak.nils _ _ (.inr rfl), ?_⟩)
  clear hm; rintro ⟨i, tk, acc, la⟩ s ⟨hi, ha, hg, hm⟩; (conv => whnf)
  skip
  (refine SIf.x Ty.mixed (fun hc => ?_) (fun hc => ?_) <;> (conv => whnf))
  · have hlt : i < l.length := by simp at hc; omega
    have ga : l[i]? = some l[i] := by simp [hlt]
    have hd := gapsB_drop ga la
    generalize l[i] = n at ga hd
    have ga' := get_map (f := AV.int .i64) ga
    have hk := num_len (w64 (n - la))
    have hm' := hm.set b1 [.int .i64 n]
    rw [setBox_setBox] at hm'
    refine ⟨_, ⟨by first | omega | (simp only [List.length_cons, List.length_append, List.length_nil, List.length_map, length_aBytes, List.length_replicate, List.length_range]; omega) | fail, by exact ga'⟩, ?_⟩
    (conv => whnf); refine SCall.b 0 (fun hb => by exact less2_any w0 _ b1 n la (hm.box _ _ setBox_same)) rfl rfl ?_; (conv => whnf); refine SCall.p (by exact form2_t (bs := num _) w0 [.n _] trivial (Nat.le_of_ble_eq_true rfl) _ rfl) ?_; (conv => whnf)
    refine SApp.c rfl rfl (by assumption) (by simp only [length_aBytes]; omega) fun tk1 σ1 hm => ?_
    (conv => whnf); refine ⟨_, IntWalk.i64_in _ (by omega), ?_⟩; (conv => whnf)
    refine ⟨(i + 1, tk1, acc ++ num (w64 (n - la)), n), by show l.length - (i + 1) < l.length - i; omega, ?_, .refl _, by omega, by simp only [List.length_append]; omega, ?_, hm⟩
    · show xWeak [(5, .slc 1 (aBytes (acc ++ num (w64 (n - la)))) tk1), (6, .fn (.func 63) [] [.ptr b1 0]), (15, .slc 1 (l.map (.int .i64)) .no), (16, .int .i64 l.length), (17, .int .i64 (i + 1 : Nat))] _
      rw [aBytes_append]
      repeat (first | exact trivial | refine ⟨by first | trivial | exact Weak.refl _ | exact Weak.tok _ _ _ | exact Weak.of_eq (congrArg (AV.int _) (by omega)) | exact Weak.of_eq (congrArg AV.bool (by fail)) | exact Weak.nils _ _ (.inr rfl), ?_⟩)
    · rw [hg, hd, List.append_assoc]
  · have hge : i = l.length := by simp at hc; omega
    subst hge
    skip
    rw [List.drop_length, gapsB, List.append_nil] at hg
    refine .v (.trans (le_setBox (.refl _) hb1) hm.le) ?_
    rw [hg]
    exact .tok ..
end Go.Proofs.YtkbmkhhcppfcnaaGreatDoor
end
section
set_option linter.unusedVariables false
set_option linter.unusedSimpArgs false
set_option maxRecDepth 100000
set_option maxHeartbeats 1000000
namespace Go.Proofs.YtkbmkhhcppfcnaaGreatDoor
open Go.Al Go.RowKit
theorem lay2_any (w0 : Base) (hL : Laid w0) (x : Sub) (t : UInt8) (seq : Int) (v : List UInt8) (tv : Tok) (rows : List Row) (bo : Nat) (tk : Tok) (σ : St) (hb : σ.box bo = some [.slc 2 (rows.map eRow) tk]) (hr : Room σ tk) (hn : rows.length ≤ 10000000) :
    CallW Tryz.prog w0 19 [.int .u8 t.toNat, .int .i64 seq, .slc 1 (aBytes v) tv, .ptr bo 0, .vp (eSub x)] σ (fun r s => r = .tup [] ∧ ∃ tk', Moves (σ.setBox bo [.slc 2 ((rows ++ [(⟨rkey 2 t x.id seq, v⟩ : Row)]).map eRow) tk']) tk s tk') := by
  refine CallW.weak1 [_, _] [_, _] (.tok 1 (aBytes v) tv) ?_
  refine CallW.x (B := [(bo, [.slc 2 (rows.map eRow) tk])]) Ty.tok Ty.mixed Tryz.func19 rfl Tryz.ntmps19 rfl (by simp) (by decide +kernel) ⟨by simpa using hb, by simp⟩ ?_
  (conv => whnf); refine SReg.d [1, 2, 4, 6, 0, 3, 5, 7, 8, 9, 10] [1, 0, 0, 1, 0, 0, 0, 0, 0, 2, 2] (by decide +kernel) ?_; (conv => whnf); (conv => whnf); refine SLoad.on 0 rfl ?_; (conv => whnf); refine SCall.p (by exact keyS_any w0 hL 2 (by omega) t _ _) ?_; (conv => whnf)
  refine SApp.c rfl rfl (by exact Moves.refl hr) (by simp only [length_aBytes, List.length_append, List.length_cons, List.length_nil, List.length_map, List.length_range]; omega) fun tk1 σ1 hm => ?_
  (conv => whnf); refine SStore.on 0 rfl ?_; (conv => whnf); refine .w ⟨rfl, tk1, ?_⟩
  rw [List.map_append]
  exact hm.set bo _
def nilOr : List UInt8 → AV
  | [] => .nils
  | c :: r => .slc 1 (aBytes (c :: r)) .no
def rowsOf (x : Sub) (t : UInt8) (f : Msg → List UInt8) (l : List Msg) : List Row := l.flatMap fun m => if f m = [] then [] else [⟨rkey 2 t x.id m.seq, f m⟩]
theorem rowsOf_len (x : Sub) (t : UInt8) (f : Msg → List UInt8) : ∀ l : List Msg, (rowsOf x t f l).length ≤ l.length
  | [] => by simp [rowsOf]
  | m :: l => by
    have := rowsOf_len x t f l
    have h1 : (if f m = [] then [] else [(⟨rkey 2 t x.id m.seq, f m⟩ : Row)]).length ≤ 1 := by split <;> simp
    simp only [rowsOf, List.flatMap_cons, List.length_append, List.length_cons] at this ⊢
    omega
theorem each2_any (w0 : Base) (hL : Laid w0) (x : Sub) (hx : x.queue.length ≤ 100000) (t : UInt8) (g : FuncId) (f : Msg → List UInt8) [hf : OwnF Tryz.prog g] (hg : ∀ m ∈ x.queue, CallP Tryz.prog w0 g [eMsg m] (nilOr (f m))) (rows : List Row) (bo b4 : Nat) (tk : Tok) (σ : St)
    (hb : σ.box bo = some [.slc 2 (rows.map eRow) tk]) (h4 : σ.box b4 = some [.fn (.func 19) [] [.ptr bo 0, .vp (eSub x)]]) (hne : bo ≠ b4) (hr : Room σ tk) (hn : rows.length ≤ 1000000) :
    CallW Tryz.prog w0 21 [.int .u8 t.toNat, .fn (.func g) [] [], .vp (eSub x), .ptr b4 0] σ (fun r s => r = .tup [] ∧ ∃ tk', Moves (σ.setBox bo [.slc 2 ((rows ++ rowsOf x t f x.queue).map eRow) tk']) tk s tk') := by
  refine CallW.x (B := [(bo, [.slc 2 (rows.map eRow) tk]), (b4, [.fn (.func 19) [] [.ptr bo 0, .vp (eSub x)]])]) Ty.tok Ty.mixed Tryz.func21 rfl Tryz.ntmps21 rfl (by simp) (by decide +kernel) ⟨by simp [hb, h4], by simp [hne]⟩ ?_
  (conv => whnf)
  skip
  refine SLoop.by Ty.mixed (fun (a : Nat × Tok) => x.queue.length - a.1) (fun (i, tk) => [(0, .int .u8 t.toNat), (1, .fn (.func g) [] []), (2, .vp (eSub x)), (3, .ptr b4 0), (10, .slc 8 (x.queue.map eMsg) .no), (11, .int .i64 x.queue.length), (12, .int .i64 i)]) (fun (i, tk) => [(bo, [.slc 2 ((rows ++ rowsOf x t f (x.queue.take i)).map eRow) tk]), (b4, [.fn (.func 19) [] [.ptr bo 0, .vp (eSub x)]])])
    (fun (i, tk') s => i ≤ x.queue.length ∧ Moves (σ.setBox bo [.slc 2 ((rows ++ rowsOf x t f (x.queue.take i)).map eRow) tk']) tk s tk') (0, tk) ⟨?_, ?_, Nat.zero_le _, ?_⟩ ?_
  · show xWeak [(0, .int .u8 t.toNat), (1, .fn (.func g) [] []), (2, .vp (eSub x)), (3, .ptr b4 0), (10, .slc 8 (x.queue.map eMsg) .no), (11, .int .i64 x.queue.length), (12, .int .i64 (0 : Nat))] _
    rw [List.length_map]
    repeat (first | exact trivial | refine ⟨by first | trivial | exact Weak.refl _ | exact Weak.tok _ _ _ | exact Weak.of_eq (congrArg (AV.int _) (by omega)) | exact Weak.of_eq (congrArg AV.bool (by fail)) | exact Weak.nils _ _ (.inr rfl), ?_⟩)
  · show BSub [(bo, [.slc 2 ((rows ++ rowsOf x t f (x.queue.take 0)).map eRow) tk]), (b4, _)] _
    rw [List.take_zero, rowsOf, List.flatMap_nil, List.append_nil]
    exact .refl _
  · show Moves (σ.setBox bo [.slc 2 ((rows ++ rowsOf x t f (x.queue.take 0)).map eRow) tk]) tk σ tk
    rw [List.take_zero, rowsOf, List.flatMap_nil, List.append_nil, setBox_self hb]
    exact .refl hr
  rintro ⟨i, tk'⟩ s ⟨hi, hm0⟩; (conv => whnf)
  skip
  (refine SIf.x Ty.mixed (fun hc => ?_) (fun hc => ?_) <;> (conv => whnf))
  · have hlt : i < x.queue.length := by simp at hc; omega
    have ga : x.queue[i]? = some x.queue[i] := by simp [hlt]
    have hd : rowsOf x t f (x.queue.take (i + 1)) = rowsOf x t f (x.queue.take i) ++ (if f x.queue[i] = [] then [] else [⟨rkey 2 t x.id x.queue[i].seq, f x.queue[i]⟩]) := flat_take_snoc _ ga
    have hgm := hg _ (List.getElem_mem hlt)
    have hl0 := rowsOf_len x t f (x.queue.take i)
    have hl1 := List.length_take_le i x.queue
    generalize x.queue[i] = m at ga hd hgm
    have ga' := get_map (f := eMsg) ga
    cases hv : f m with
    | nil =>
      rw [hv] at hgm hd
      refine ⟨_, ⟨by first | omega | (simp only [List.length_cons, List.length_append, List.length_nil, List.length_map, length_aBytes, List.length_replicate, List.length_range]; omega) | fail, by exact ga'⟩, ?_⟩
      (conv => whnf); intro b1 hb1; (conv => whnf); refine SStore.on 0 rfl ?_; (conv => whnf); refine SLoad.on 0 rfl ?_; (conv => whnf); refine SCall.p (by exact hgm) ?_; (conv => whnf); refine SIf.n Ty.mixed (by exact rfl) ?_; (conv => whnf); refine ⟨_, IntWalk.i64_in _ (by omega), ?_⟩; (conv => whnf)
      refine ⟨(i + 1, tk'), by show x.queue.length - (i + 1) < x.queue.length - i; omega, by repeat (first | exact trivial | refine ⟨by first | trivial | exact Weak.refl _ | exact Weak.tok _ _ _ | exact Weak.of_eq (congrArg (AV.int _) (by omega)) | exact Weak.of_eq (congrArg AV.bool (by fail)) | exact Weak.nils _ _ (.inr rfl), ?_⟩), ?_, by omega, ?_⟩
      · refine .drop ?_
        show BSub [(bo, [.slc 2 ((rows ++ rowsOf x t f (x.queue.take (i + 1))).map eRow) tk']), (b4, _)] _
        rw [hd, if_pos rfl, List.append_nil]
        exact .refl _
      · show Moves (σ.setBox bo [.slc 2 ((rows ++ rowsOf x t f (x.queue.take (i + 1))).map eRow) tk']) tk _ tk'
        rw [hd, if_pos rfl, List.append_nil]
        exact hm0.new2 (by assumption)
    | cons c r =>
      rw [hv] at hgm hd
      refine ⟨_, ⟨by first | omega | (simp only [List.length_cons, List.length_append, List.length_nil, List.length_map, length_aBytes, List.length_replicate, List.length_range]; omega) | fail, by exact ga'⟩, ?_⟩
      (conv => whnf); intro b1 hb1; (conv => whnf); refine SStore.on 0 rfl ?_; (conv => whnf); refine SLoad.on 0 rfl ?_; (conv => whnf); refine SCall.p (by exact hgm) ?_; (conv => whnf); refine SIf.y Ty.mixed (by exact rfl) ?_; (conv => whnf); refine SLoad.on 2 rfl ?_; (conv => whnf); refine SLoad.on 0 rfl ?_; (conv => whnf)
      refine SCall.o 1 (fun hb => by exact lay2_any w0 hL x t _ _ _ _ bo _ _ (by assumption) ((hm0.new2 (by assumption)).room) (by simp only [List.length_append]; omega)) rfl rfl fun tk1 σ1 hn1 => ?_
      (conv => whnf); refine ⟨_, IntWalk.i64_in _ (by omega), ?_⟩; (conv => whnf)
      have e2 : rows ++ rowsOf x t f (x.queue.take (i + 1)) = (rows ++ rowsOf x t f (x.queue.take i)) ++ [⟨rkey 2 t x.id m.seq, c :: r⟩] := by rw [hd, if_neg (by simp), ← List.append_assoc]
      refine ⟨(i + 1, tk1), by show x.queue.length - (i + 1) < x.queue.length - i; omega, by repeat (first | exact trivial | refine ⟨by first | trivial | exact Weak.refl _ | exact Weak.tok _ _ _ | exact Weak.of_eq (congrArg (AV.int _) (by omega)) | exact Weak.of_eq (congrArg AV.bool (by fail)) | exact Weak.nils _ _ (.inr rfl), ?_⟩), ?_, by omega, ?_⟩
      · refine .drop ?_
        show BSub [(bo, [.slc 2 ((rows ++ rowsOf x t f (x.queue.take (i + 1))).map eRow) tk1]), (b4, _)] _
        rw [e2]
        exact .refl _
      · show Moves (σ.setBox bo [.slc 2 ((rows ++ rowsOf x t f (x.queue.take (i + 1))).map eRow) tk1]) tk _ tk1
        rw [e2]
        exact (hm0.new2 (by assumption)).chain hn1
  · have hge : i = x.queue.length := by simp at hc; omega
    subst hge
    skip
    rw [List.take_length] at hm0
    exact .w ⟨rfl, tk', hm0⟩
end Go.Proofs.YtkbmkhhcppfcnaaGreatDoor
end
section
set_option linter.unusedVariables false
set_option linter.unusedSimpArgs false
set_option maxRecDepth 100000
set_option maxHeartbeats 1000000
namespace Go.Proofs.YtkbmkhhcppfcnaaGreatDoor
open Go.Al Go.RowKit
theorem nilOr_ne {l : List UInt8} (h : l ≠ []) : nilOr l = .slc 1 (aBytes l) .no := by
  cases l with
  | nil => exact absurd rfl h
  | cons c r => rfl
theorem num_ne (n : Int) : num n ≠ [] := by obtain ⟨c, r, h⟩ := num_pos n; rw [h]; simp
theorem txt_ne (s : List UInt8) : txt s ≠ [] := by obtain ⟨c, r, h⟩ := f1_pos (.s s); simp only [f1] at h; rw [h]; simp
def xN (m : Msg) : List UInt8 := if m.prio ≠ 0 ∨ m.dead = true then xB m else []
theorem qB2_ne (m : Msg) : qB2 m ≠ [] := by unfold qB2; simp [txt_ne]
theorem xB_ne (m : Msg) : xB m ≠ [] := by unfold xB; simp [num_ne]
theorem of3_any (w0 : Base) (m : Msg) (h : m.body.length ≤ 1000) : CallP Tryz.prog w0 23 [eMsg m] (nilOr (txt m.body)) := by
  refine CallP.x Ty.tok Ty.mixed Tryz.func23 rfl Tryz.ntmps23 rfl (by simp) (by decide +kernel) fun σ => ?_
  (conv => whnf); refine SBox.f ?_; (conv => whnf); refine SCall.p (by exact form2_t (bs := txt _) w0 [.s _] ⟨h, trivial⟩ (Nat.le_of_ble_eq_true rfl) _ rfl) ?_; (conv => whnf); exact .p (.refl _) (nilOr_ne (txt_ne _))
theorem of4_any (w0 : Base) (m : Msg) (h : m.attr.length ≤ 1000) : CallP Tryz.prog w0 25 [eMsg m] (nilOr (qB2 m)) := by
  refine CallP.x Ty.tok Ty.mixed Tryz.func25 rfl Tryz.ntmps25 rfl (by simp) (by decide +kernel) fun σ => ?_
  (conv => whnf); refine SBox.f ?_; (conv => whnf); refine SReg.d [0, 1, 2, 3, 4, 5, 6, 7, 8, 9, 10, 11, 12, 13, 14, 15] [0, 0, 0, 0, 0, 0, 0, 0, 0, 0, 0, 0, 0, 0, 0, 0] (by decide +kernel) ?_; (conv => whnf); (conv => whnf); refine SCall.p (by exact flag2_any w0 _) ?_; (conv => whnf); refine SCall.p (by exact form2_t (bs := qB2 m) w0 [.s _, .n _, .n _, .n _] ⟨h, trivial⟩ (Nat.le_of_ble_eq_true rfl) _ rfl) ?_; (conv => whnf); exact .p (.refl _) (nilOr_ne (qB2_ne _))
theorem of5_any (w0 : Base) (m : Msg) : CallP Tryz.prog w0 27 [eMsg m] (nilOr (xN m)) := by
  refine CallP.x Ty.tok Ty.mixed Tryz.func27 rfl Tryz.ntmps27 rfl (by simp) (by decide +kernel) fun σ => ?_
  (conv => whnf); refine SBox.f ?_; (conv => whnf)
  (refine SCond.mk (fun hc => ?_) (fun hc => ?_) <;> (conv => whnf))
  refine SCond.y (by assumption) ?_; (conv => whnf); refine SCond.y (by assumption) ?_; (conv => whnf); refine SPick.y (by assumption) ?_; (conv => whnf)
  (refine SIf.x Ty.mixed (fun hc => ?_) (fun hc => ?_) <;> (conv => whnf))
  rotate_left; refine SReg.d [0, 1, 2, 3, 4, 5, 6, 7, 8] [0, 0, 0, 0, 0, 0, 0, 0, 0] (by decide +kernel) ?_; (conv => whnf); (conv => whnf); refine SCall.p (by exact death2_any w0 _) ?_; (conv => whnf); refine SCall.p (by exact form2_t (bs := xB m) w0 [.n _, .n _] trivial (Nat.le_of_ble_eq_true rfl) _ rfl) ?_; (conv => whnf); rotate_left; refine SCond.n (by assumption) ?_; (conv => whnf); refine SCond.n (by assumption) ?_
  (conv => whnf); refine SPick.n (by assumption) ?_; (conv => whnf); refine SIf.n Ty.mixed (by exact rfl) ?_; (conv => whnf); refine SReg.d [0, 1, 2, 3, 4, 5, 6, 7, 8] [0, 0, 0, 0, 0, 0, 0, 0, 0] (by decide +kernel) ?_; (conv => whnf); (conv => whnf); refine SCall.p (by exact death2_any w0 _) ?_; (conv => whnf); refine SCall.p (by exact form2_t (bs := xB m) w0 [.n _, .n _] trivial (Nat.le_of_ble_eq_true rfl) _ rfl) ?_
  (conv => whnf); rotate_left
  all_goals refine .p (.refl _) ?_
  · have : ¬ (m.prio ≠ 0 ∨ m.dead = true) := by simp_all
    rw [xN, if_neg this]; rfl
  · have : m.prio ≠ 0 ∨ m.dead = true := by simp_all
    rw [xN, if_pos this]; exact nilOr_ne (xB_ne m)
  · have : m.prio ≠ 0 ∨ m.dead = true := by simp_all
    rw [xN, if_pos this]; exact nilOr_ne (xB_ne m)
theorem rowsOf_b (x : Sub) (l : List Msg) : rowsOf x 98 (fun m => txt m.body) l = l.map (b2 x.id) := by
  unfold rowsOf
  induction l with
  | nil => rfl
  | cons m l ih => rw [List.flatMap_cons, ih, if_neg (txt_ne _)]; rfl
theorem rowsOf_q (x : Sub) (l : List Msg) : rowsOf x 113 qB2 l = l.map (q2 x.id) := by
  unfold rowsOf
  induction l with
  | nil => rfl
  | cons m l ih => rw [List.flatMap_cons, ih, if_neg (qB2_ne _)]; rfl
theorem rowsOf_x (x : Sub) (l : List Msg) : rowsOf x 120 xN l = l.flatMap (x2 x.id) := by
  unfold rowsOf
  induction l with
  | nil => rfl
  | cons m l ih =>
    rw [List.flatMap_cons, ih, List.flatMap_cons]
    congr 1
    unfold xN x2
    by_cases h : m.prio ≠ 0 ∨ m.dead = true
    · rw [if_pos h, if_neg (xB_ne m), if_pos h]
    · rw [if_neg h, if_pos rfl, if_neg h]
end Go.Proofs.YtkbmkhhcppfcnaaGreatDoor
end
section
set_option linter.unusedVariables false
set_option linter.unusedSimpArgs false
set_option maxRecDepth 100000
set_option maxHeartbeats 1000000
namespace Go.Proofs.YtkbmkhhcppfcnaaGreatDoor
open Go.Al Go.RowKit
theorem ack2_len (x : Sub) : (ack2 x).length ≤ 1 := by unfold ack2; split <;> simp
theorem note2_len (x : Sub) : (note2 x).length ≤ 1 := by unfold note2; split <;> simp
theorem enc2_p (w0 : Base) (hL : Laid w0) (x : Sub) (hx : Fits x) : CallP Tryz.prog w0 9 [eSub x] (eRows (enc2 x)) := by
  refine CallP.x Ty.tok Ty.mixed Tryz.func9 rfl Tryz.ntmps9 rfl (by simp) (by decide +kernel) fun σ => ?_
  obtain ⟨hs1, hs2, hs3, hs4⟩ := And.intro hx.name (And.intro hx.topic (And.intro hx.want hx.note))
  have hna := hx.nacks
  have hnq := hx.nqueue
  (conv => whnf); refine SBox.f ?_; (conv => whnf)
  refine ⟨true, fun bo hbo => ?_⟩
  (conv => whnf); intro b4 hb4; (conv => whnf); refine SStore.on 0 rfl ?_; (conv => whnf)
  have hne : bo ≠ b4 := fun e => by subst e; rw [setBox_same] at hb4; cases hb4
  have hm : Moves (((σ.setBox b4 [.fn (.func 19) [] [.ptr bo 0, .vp (eSub x)]])).setBox bo [.slc 2 [] .full]) .full (((σ.setBox bo [.slc 2 [] .full]).setBox b4 [.nilfn]).setBox b4 [.fn (.func 19) [] [.ptr bo 0, .vp (eSub x)]]) .full := by
    rw [setBox_setBox, setBox_comm hne]
    exact .full _
  have hb4' : σ.box b4 = none := by rwa [setBox_ne (Ne.symm hne)] at hb4
  generalize hτ : (σ.setBox b4 [.fn (.func 19) [] [.ptr bo 0, .vp (eSub x)]]) = τ at hm
  have hle : St.Le σ τ := by rw [← hτ]; exact le_setBox (.refl _) hb4'
  have hb1 : τ.box bo = none := by rw [← hτ, setBox_ne hne]; exact hbo
  have hm : Moves (τ.setBox bo [.slc 2 (([] : List Row).map eRow) .full]) .full (((σ.setBox bo [.slc 2 [] .full]).setBox b4 [.nilfn]).setBox b4 [.fn (.func 19) [] [.ptr bo 0, .vp (eSub x)]]) .full := hm
  have kb4 : ∀ rows tk s, Moves (τ.setBox bo [.slc 2 (List.map eRow rows) tk]) .full s tk → s.box b4 = some [.fn (.func 19) [] [.ptr bo 0, .vp (eSub x)]] := fun rows tk s h => h.box _ _ (by rw [setBox_ne (Ne.symm hne), ← hτ]; exact setBox_same)
  have kbo : ∀ rows tk s, Moves (τ.setBox bo [.slc 2 (List.map eRow rows) tk]) .full s tk → s.box bo = some [.slc 2 (List.map eRow rows) tk] := fun rows tk s h => h.box _ _ setBox_same
  have la := ack2_len x
  have lb := rowsOf_len x 98 (fun m => txt m.body) x.queue
  have ln := note2_len x
  have lq := rowsOf_len x 113 qB2 x.queue
  have lx := rowsOf_len x 120 xN x.queue
  refine SIf.meet Ty.mixed (fun tk => [(1, .vp (eSub x)), (3, .ptr bo 0), (4, .ptr b4 0), (5, .fn (.func 21) [] [.vp (eSub x), .ptr b4 0])]) (fun tk => [(b4, [.fn (.func 19) [] [.ptr bo 0, .vp (eSub x)]]), (bo, [.slc 2 ((ack2 x).map eRow) tk])]) (fun tk s => Moves (τ.setBox bo [.slc 2 ((ack2 x).map eRow) tk]) .full s tk) (fun hc => ?_) (fun hc => ?_) ?_
  · have h0 : x.acks ≠ [] := by rintro e; rw [e] at hc; simp at hc
    have e1 : ack2 x = [] ++ [⟨rkey 2 97 x.id 0, acksB x⟩] := by rw [ack2, if_neg h0]; rfl
    (conv => whnf); refine SReg.d [1, 3, 0, 2, 4, 5, 6] [1, 0, 1, 0, 1, 0, 2] (by decide +kernel) ?_; (conv => whnf); (conv => whnf); refine SLoad.on 0 rfl ?_; (conv => whnf); refine SCall.p (by exact gaps2_p w0 _ _ _ (by omega)) ?_; (conv => whnf)
    refine SCall.o 1 (fun hb => by exact lay2_any w0 hL x 97 _ _ _ [] bo _ _ (kbo _ _ _ hm) hm.room (by simp)) rfl rfl fun tk1 σ1 hn1 => ?_
    (conv => whnf)
    have hm2 := hm.chain hn1
    rw [e1]
    exact ⟨tk1, by repeat (first | exact trivial | refine ⟨by first | trivial | exact Weak.refl _ | exact Weak.tok _ _ _ | exact Weak.of_eq (congrArg (AV.int _) (by omega)) | exact Weak.of_eq (congrArg AV.bool (by fail)) | exact Weak.nils _ _ (.inr rfl), ?_⟩), .refl _, hm2⟩
  · have h0 : x.acks = [] := by
      cases h : x.acks with
      | nil => rfl
      | cons a l => rw [h] at hc; simp at hc
    have e1 : ack2 x = [] := by rw [ack2, if_pos h0]
    rw [e1]
    (conv => whnf)
    exact ⟨.full, by repeat (first | exact trivial | refine ⟨by first | trivial | exact Weak.refl _ | exact Weak.tok _ _ _ | exact Weak.of_eq (congrArg (AV.int _) (by omega)) | exact Weak.of_eq (congrArg AV.bool (by fail)) | exact Weak.nils _ _ (.inr rfl), ?_⟩), .refl _, hm⟩
  clear hm; intro tk s hm; (conv => whnf)
  refine SCall.o 1 (fun hb => by exact each2_any w0 hL x hnq 98 23 (fun m => txt m.body) (fun m hq => of3_any w0 m (hx.queue m hq).1) _ bo b4 _ _ (kbo _ _ _ hm) (kb4 _ _ _ hm) hne hm.room (by omega)) rfl rfl fun tk1 σ1 hn1 => ?_
  (conv => whnf)
  have hm := hm.chain hn1
  clear hn1
  rw [rowsOf_b] at hm ⊢
  refine SIf.meet Ty.mixed (fun tk => [(1, .vp (eSub x)), (3, .ptr bo 0), (4, .ptr b4 0), (5, .fn (.func 21) [] [.vp (eSub x), .ptr b4 0])]) (fun tk => [(b4, [.fn (.func 19) [] [.ptr bo 0, .vp (eSub x)]]), (bo, [.slc 2 ((ack2 x ++ x.queue.map (b2 x.id) ++ note2 x).map eRow) tk])]) (fun tk s => Moves (τ.setBox bo [.slc 2 ((ack2 x ++ x.queue.map (b2 x.id) ++ note2 x).map eRow) tk]) .full s tk) (fun hc => ?_) (fun hc => ?_) ?_
  · have h0 : x.note ≠ [] := by rintro e; simp [e] at hc
    have e1 : note2 x = [⟨rkey 2 110 x.id 0, txt x.note⟩] := by rw [note2, if_neg h0]
    (conv => whnf); refine SReg.d [1, 0, 2, 3, 4, 5, 6] [1, 0, 1, 0, 0, 0, 2] (by decide +kernel) ?_; (conv => whnf); (conv => whnf); refine SLoad.on 0 rfl ?_; (conv => whnf); refine SCall.p (by exact form2_t (bs := txt x.note) w0 [.s _] ⟨hs4, trivial⟩ (Nat.le_of_ble_eq_true rfl) _ rfl) ?_; (conv => whnf)
    refine SCall.o 1 (fun hb => by exact lay2_any w0 hL x 110 _ _ _ _ bo _ _ (kbo _ _ _ hm) hm.room (by simp only [List.length_append, List.length_map]; omega)) rfl rfl fun tk1 σ1 hn1 => ?_
    (conv => whnf)
    have hm2 := hm.chain hn1
    rw [e1]
    exact ⟨_, by repeat (first | exact trivial | refine ⟨by first | trivial | exact Weak.refl _ | exact Weak.tok _ _ _ | exact Weak.of_eq (congrArg (AV.int _) (by omega)) | exact Weak.of_eq (congrArg AV.bool (by fail)) | exact Weak.nils _ _ (.inr rfl), ?_⟩), .refl _, hm2⟩
  · have h0 : x.note = [] := by simpa using hc
    have e1 : note2 x = [] := by rw [note2, if_pos h0]
    rw [e1, List.append_nil]
    (conv => whnf)
    exact ⟨_, by repeat (first | exact trivial | refine ⟨by first | trivial | exact Weak.refl _ | exact Weak.tok _ _ _ | exact Weak.of_eq (congrArg (AV.int _) (by omega)) | exact Weak.of_eq (congrArg AV.bool (by fail)) | exact Weak.nils _ _ (.inr rfl), ?_⟩), .refl _, hm⟩
  clear hm; intro tk s hm; (conv => whnf)
  refine SCall.o 1 (fun hb => by exact each2_any w0 hL x hnq 113 25 qB2 (fun m hq => of4_any w0 m (hx.queue m hq).2) _ bo b4 _ _ (kbo _ _ _ hm) (kb4 _ _ _ hm) hne hm.room (by simp only [List.length_append, List.length_map]; omega)) rfl rfl fun tk1 σ1 hn1 => ?_
  (conv => whnf)
  have hm := hm.chain hn1
  clear hn1
  rw [rowsOf_q] at hm ⊢
  refine SReg.d [1, 4, 7, 10, 13, 16, 0, 2, 3, 5, 6, 8, 9, 11, 12, 14, 15, 17, 18, 19, 20, 21] [1, 0, 1, 0, 0, 1, 0, 0, 1, 0, 0, 1, 0, 0, 1, 0, 0, 1, 0, 0, 0, 2] (by decide +kernel) ?_; (conv => whnf); (conv => whnf); refine SLoad.on 0 rfl ?_; (conv => whnf); refine SCall.p (by exact form2_t (bs := sB2 x) w0 [.s _, .s _, .s _, .n _, .n _, .n _] ⟨hs1, hs2, hs3, trivial⟩ (Nat.le_of_ble_eq_true rfl) _ rfl) ?_; (conv => whnf)
  refine SCall.o 1 (fun hb => by exact lay2_any w0 hL x 115 _ _ _ _ bo _ _ (kbo _ _ _ hm) hm.room (by simp only [List.length_append, List.length_map]; omega)) rfl rfl fun tk1 σ1 hn1 => ?_
  (conv => whnf)
  have hm := hm.chain hn1
  clear hn1
  refine SCall.o 1 (fun hb => by exact each2_any w0 hL x hnq 120 27 xN (fun m hq => of5_any w0 m) _ bo b4 _ _ (kbo _ _ _ hm) (kb4 _ _ _ hm) hne hm.room (by simp only [List.length_append, List.length_map, List.length_cons, List.length_nil]; omega)) rfl rfl fun tk1 σ1 hn1 => ?_
  (conv => whnf); refine SLoad.on 1 rfl ?_; (conv => whnf)
  have hm := hm.chain hn1
  clear hn1
  rw [rowsOf_x] at hm ⊢
  refine .v (.trans ?_ hm.le) (.tok ..); exact le_setBox hle hbo
end Go.Proofs.YtkbmkhhcppfcnaaGreatDoor
end
section
set_option linter.unusedVariables false
set_option linter.unusedSimpArgs false
set_option maxRecDepth 100000
set_option maxHeartbeats 1000000
namespace Go.Proofs.YtkbmkhhcppfcnaaGreatDoor
open Go.Al Go.RowKit
def rd2 (v : List UInt8) (s : Nat × Bool) : List AV := [.slc 1 (aBytes v) .no, .int .i64 (s.1 : Nat), .bool s.2]
theorem rnum2_any (w0 : Base) (v : List UInt8) (a : Nat) (bad : Bool) (b : Nat) (σ : St) (hv : v.length ≤ 1000000) (ha : a ≤ 1000000) (hb : σ.box b = some (rd2 v (a, bad))) :
    CallW Tryz.prog w0 82 [.ptr b 0] σ (fun r s => r = .int .i64 ((n2 v (a, bad)).1 : Nat) ∧ s = σ.setBox b (rd2 v (n2 v (a, bad)).2)) := by
  refine CallW.x (B := [(b, rd2 v (a, bad))]) Ty.tok Ty.mixed Tryz.func82 rfl Tryz.ntmps82 rfl (by simp) (by decide +kernel) ⟨by simpa using hb, by simp⟩ ?_
  have hgn := getNum_any w0 v .no a (by omega) (by omega)
  have hn2 : n2 v (a, bad) = if bad = true ∨ (getNum v a).2.2 ≠ 0 then (0, a, true) else ((getNum v a).1, (getNum v a).2.1, false) := rfl
  generalize getNum v a = g at hgn hn2
  obtain ⟨n, k, e⟩ := g
  cases bad with
  | true =>
    rw [hn2, if_pos (.inl rfl)]
    (conv => whnf); refine SReg.d [0, 1, 2, 4, 5, 6, 3, 7, 8, 9, 10, 11, 12, 13, 14, 15] [0, 0, 0, 1, 0, 0, 0, 1, 0, 0, 0, 0, 0, 0, 0, 0] (by decide +kernel) ?_; (conv => whnf); (conv => whnf); refine SLoad.on 0 rfl ?_; (conv => whnf); refine SLoad.on 0 rfl ?_; (conv => whnf); refine SCall.p (by exact hgn) ?_; (conv => whnf); refine SLoad.on 0 rfl ?_; (conv => whnf); refine SCond.y (by exact rfl) ?_; (conv => whnf); refine SCond.y (by exact rfl) ?_; (conv => whnf)
    refine SPick.y (by exact rfl) ?_; (conv => whnf); refine SStore.on 0 rfl ?_; (conv => whnf); refine SLoad.on 0 rfl ?_; (conv => whnf); refine SIf.y Ty.mixed (by exact rfl) ?_; (conv => whnf); exact .p (.refl _) rfl
  | false =>
    by_cases he : e = 0
    · subst he
      rw [hn2, if_neg (by simp)]
      (conv => whnf); refine SReg.d [0, 1, 2, 4, 5, 6, 3, 7, 8, 9, 10, 11, 12, 13, 14, 15] [0, 0, 0, 1, 0, 0, 0, 1, 0, 0, 0, 0, 0, 0, 0, 0] (by decide +kernel) ?_; (conv => whnf); (conv => whnf); refine SLoad.on 0 rfl ?_; (conv => whnf); refine SLoad.on 0 rfl ?_; (conv => whnf); refine SCall.p (by exact hgn) ?_; (conv => whnf); refine SLoad.on 0 rfl ?_; (conv => whnf); refine SCond.n (by exact rfl) ?_; (conv => whnf); refine SCond.n (by exact rfl) ?_; (conv => whnf)
      refine SPick.n (by exact rfl) ?_; (conv => whnf); refine SStore.on 0 rfl ?_; (conv => whnf); refine SLoad.on 0 rfl ?_; (conv => whnf); refine SIf.n Ty.mixed (by exact rfl) ?_; (conv => whnf); refine SStore.on 0 rfl ?_; (conv => whnf)
      rw [setBox_setBox]
      exact .p (.refl _) rfl
    · have hd : (!decide ((e : Int) = 0)) = true := by simp [he]
      rw [hn2, if_pos (.inr he)]
      (conv => whnf); refine SReg.d [0, 1, 2, 4, 5, 6, 3, 7, 8, 9, 10, 11, 12, 13, 14, 15] [0, 0, 0, 1, 0, 0, 0, 1, 0, 0, 0, 0, 0, 0, 0, 0] (by decide +kernel) ?_; (conv => whnf); (conv => whnf); refine SLoad.on 0 rfl ?_; (conv => whnf); refine SLoad.on 0 rfl ?_; (conv => whnf); refine SCall.p (by exact hgn) ?_; (conv => whnf); refine SLoad.on 0 rfl ?_; (conv => whnf); refine SCond.n (by exact rfl) ?_; (conv => whnf); refine SCond.n (by exact rfl) ?_; (conv => whnf)
      refine SPick.n (by exact rfl) ?_; (conv => whnf); refine SStore.on 0 rfl ?_; (conv => whnf); refine SLoad.on 0 rfl ?_; (conv => whnf); refine SIf.y Ty.mixed (by assumption) ?_; (conv => whnf); refine .p ?_ rfl
      show St.Le (σ.setBox b [_, _, .bool true]) (σ.setBox b [_, _, .bool (!decide ((e : Int) = 0))])
      rw [hd]
      exact .refl _
theorem rtext2_any (w0 : Base) (v : List UInt8) (a : Nat) (bad : Bool) (most : Nat) (b : Nat) (σ : St) (hv : v.length ≤ 1000000) (ha : a ≤ 1000000) (hm : most ≤ 1000) (hb : σ.box b = some (rd2 v (a, bad))) :
    CallW Tryz.prog w0 84 [.ptr b 0, .int .i64 most] σ (fun r s => r = .str (t2 v (a, bad) most).1 ∧ s = σ.setBox b (rd2 v (t2 v (a, bad) most).2)) := by
  refine CallW.x (B := [(b, rd2 v (a, bad))]) Ty.tok Ty.mixed Tryz.func84 rfl Tryz.ntmps84 rfl (by simp) (by decide +kernel) ⟨by simpa using hb, by simp⟩ ?_
  have hgn := getText_any w0 v .no a most (by omega) (by omega) (by omega)
  have hn2 : t2 v (a, bad) most = if bad = true ∨ (getText v a most).2.2 ≠ 0 then ([], a, true) else ((getText v a most).1, (getText v a most).2.1, false) := rfl
  generalize getText v a most = g at hgn hn2
  obtain ⟨n, k, e⟩ := g
  cases bad with
  | true =>
    rw [hn2, if_pos (.inl rfl)]
    (conv => whnf); refine SReg.d [0, 1, 2, 4, 5, 6, 8, 3, 7, 9, 10, 11, 12, 13, 14, 15, 16] [0, 0, 0, 1, 0, 0, 0, 1, 0, 0, 0, 0, 0, 0, 0, 0, 0] (by decide +kernel) ?_; (conv => whnf); (conv => whnf); refine SLoad.on 0 rfl ?_; (conv => whnf); refine SLoad.on 0 rfl ?_; (conv => whnf); refine SCall.p (by exact hgn) ?_; (conv => whnf); refine SLoad.on 0 rfl ?_; (conv => whnf); refine SCond.y (by exact rfl) ?_; (conv => whnf); refine SCond.y (by exact rfl) ?_; (conv => whnf)
    refine SPick.y (by exact rfl) ?_; (conv => whnf); refine SStore.on 0 rfl ?_; (conv => whnf); refine SLoad.on 0 rfl ?_; (conv => whnf); refine SIf.y Ty.mixed (by exact rfl) ?_; (conv => whnf); exact .p (.refl _) rfl
  | false =>
    by_cases he : e = 0
    · subst he
      rw [hn2, if_neg (by simp)]
      (conv => whnf); refine SReg.d [0, 1, 2, 4, 5, 6, 8, 3, 7, 9, 10, 11, 12, 13, 14, 15, 16] [0, 0, 0, 1, 0, 0, 0, 1, 0, 0, 0, 0, 0, 0, 0, 0, 0] (by decide +kernel) ?_; (conv => whnf); (conv => whnf); refine SLoad.on 0 rfl ?_; (conv => whnf); refine SLoad.on 0 rfl ?_; (conv => whnf); refine SCall.p (by exact hgn) ?_; (conv => whnf); refine SLoad.on 0 rfl ?_; (conv => whnf); refine SCond.n (by exact rfl) ?_; (conv => whnf); refine SCond.n (by exact rfl) ?_; (conv => whnf)
      refine SPick.n (by exact rfl) ?_; (conv => whnf); refine SStore.on 0 rfl ?_; (conv => whnf); refine SLoad.on 0 rfl ?_; (conv => whnf); refine SIf.n Ty.mixed (by exact rfl) ?_; (conv => whnf); refine SStore.on 0 rfl ?_; (conv => whnf)
      rw [setBox_setBox]
      exact .p (.refl _) rfl
    · have hd : (!decide ((e : Int) = 0)) = true := by simp [he]
      rw [hn2, if_pos (.inr he)]
      (conv => whnf); refine SReg.d [0, 1, 2, 4, 5, 6, 8, 3, 7, 9, 10, 11, 12, 13, 14, 15, 16] [0, 0, 0, 1, 0, 0, 0, 1, 0, 0, 0, 0, 0, 0, 0, 0, 0] (by decide +kernel) ?_; (conv => whnf); (conv => whnf); refine SLoad.on 0 rfl ?_; (conv => whnf); refine SLoad.on 0 rfl ?_; (conv => whnf); refine SCall.p (by exact hgn) ?_; (conv => whnf); refine SLoad.on 0 rfl ?_; (conv => whnf); refine SCond.n (by exact rfl) ?_; (conv => whnf); refine SCond.n (by exact rfl) ?_; (conv => whnf)
      refine SPick.n (by exact rfl) ?_; (conv => whnf); refine SStore.on 0 rfl ?_; (conv => whnf); refine SLoad.on 0 rfl ?_; (conv => whnf); refine SIf.y Ty.mixed (by assumption) ?_; (conv => whnf); refine .p ?_ rfl
      show St.Le (σ.setBox b [_, _, .bool true]) (σ.setBox b [_, _, .bool (!decide ((e : Int) = 0))])
      rw [hd]
      exact .refl _
end Go.Proofs.YtkbmkhhcppfcnaaGreatDoor
end
section
set_option linter.unusedVariables false
set_option linter.unusedSimpArgs false
set_option maxRecDepth 100000
set_option maxHeartbeats 1000000
namespace Go.Proofs.YtkbmkhhcppfcnaaGreatDoor
open Go.Al Go.RowKit
theorem rnum1_any (w0 : Base) (v : List UInt8) (s : Nat × Bool) (b : Nat) (σ : St) (hv : v.length ≤ 1000000) (ha : s.1 ≤ 1000000) (hb : σ.box b = some (rd2 v s)) :
    CallW Tryz.prog w0 71 [.ptr b 0] σ (fun r s' => r = .int .i64 ((n2 v s).1 : Nat) ∧ s' = σ.setBox b (rd2 v (n2 v s).2)) := by
  obtain ⟨a, bad⟩ := s
  refine CallW.x (B := [(b, rd2 v (a, bad))]) Ty.tok Ty.mixed Tryz.func71 rfl Tryz.ntmps71 rfl (by simp) (by decide +kernel) ⟨by simpa using hb, by simp⟩ ?_
  have hgn := getNum_any w0 v .no a (by omega) (by omega)
  have hn2 : n2 v (a, bad) = if bad = true ∨ (getNum v a).2.2 ≠ 0 then (0, a, true) else ((getNum v a).1, (getNum v a).2.1, false) := rfl
  generalize getNum v a = g at hgn hn2
  obtain ⟨n, k, e⟩ := g
  cases bad with
  | true =>
    rw [hn2, if_pos (.inl rfl)]
    (conv => whnf); refine SReg.d [0, 1, 2, 4, 5, 6, 3, 7, 8, 9, 10, 11, 12, 13, 14, 15] [0, 0, 0, 1, 0, 0, 0, 1, 0, 0, 0, 0, 0, 0, 0, 0] (by decide +kernel) ?_; (conv => whnf); (conv => whnf); refine SLoad.on 0 rfl ?_; (conv => whnf); refine SLoad.on 0 rfl ?_; (conv => whnf); refine SCall.p (by exact hgn) ?_; (conv => whnf); refine SLoad.on 0 rfl ?_; (conv => whnf); refine SCond.y (by exact rfl) ?_; (conv => whnf); refine SCond.y (by exact rfl) ?_; (conv => whnf)
    refine SPick.y (by exact rfl) ?_; (conv => whnf); refine SStore.on 0 rfl ?_; (conv => whnf); refine SLoad.on 0 rfl ?_; (conv => whnf); refine SIf.y Ty.mixed (by exact rfl) ?_; (conv => whnf); exact .p (.refl _) rfl
  | false =>
    by_cases he : e = 0
    · subst he
      rw [hn2, if_neg (by simp)]
      (conv => whnf); refine SReg.d [0, 1, 2, 4, 5, 6, 3, 7, 8, 9, 10, 11, 12, 13, 14, 15] [0, 0, 0, 1, 0, 0, 0, 1, 0, 0, 0, 0, 0, 0, 0, 0] (by decide +kernel) ?_; (conv => whnf); (conv => whnf); refine SLoad.on 0 rfl ?_; (conv => whnf); refine SLoad.on 0 rfl ?_; (conv => whnf); refine SCall.p (by exact hgn) ?_; (conv => whnf); refine SLoad.on 0 rfl ?_; (conv => whnf); refine SCond.n (by exact rfl) ?_; (conv => whnf); refine SCond.n (by exact rfl) ?_; (conv => whnf)
      refine SPick.n (by exact rfl) ?_; (conv => whnf); refine SStore.on 0 rfl ?_; (conv => whnf); refine SLoad.on 0 rfl ?_; (conv => whnf); refine SIf.n Ty.mixed (by exact rfl) ?_; (conv => whnf); refine SStore.on 0 rfl ?_; (conv => whnf)
      rw [setBox_setBox]
      exact .p (.refl _) rfl
    · have hd : (!decide ((e : Int) = 0)) = true := by simp [he]
      rw [hn2, if_pos (.inr he)]
      (conv => whnf); refine SReg.d [0, 1, 2, 4, 5, 6, 3, 7, 8, 9, 10, 11, 12, 13, 14, 15] [0, 0, 0, 1, 0, 0, 0, 1, 0, 0, 0, 0, 0, 0, 0, 0] (by decide +kernel) ?_; (conv => whnf); (conv => whnf); refine SLoad.on 0 rfl ?_; (conv => whnf); refine SLoad.on 0 rfl ?_; (conv => whnf); refine SCall.p (by exact hgn) ?_; (conv => whnf); refine SLoad.on 0 rfl ?_; (conv => whnf); refine SCond.n (by exact rfl) ?_; (conv => whnf); refine SCond.n (by exact rfl) ?_; (conv => whnf)
      refine SPick.n (by exact rfl) ?_; (conv => whnf); refine SStore.on 0 rfl ?_; (conv => whnf); refine SLoad.on 0 rfl ?_; (conv => whnf); refine SIf.y Ty.mixed (by assumption) ?_; (conv => whnf); refine .p ?_ rfl
      show St.Le (σ.setBox b [_, _, .bool true]) (σ.setBox b [_, _, .bool (!decide ((e : Int) = 0))])
      rw [hd]
      exact .refl _
theorem rtext1_any (w0 : Base) (v : List UInt8) (s : Nat × Bool) (most : Nat) (b : Nat) (σ : St) (hv : v.length ≤ 1000000) (ha : s.1 ≤ 1000000) (hm : most ≤ 1000) (hb : σ.box b = some (rd2 v s)) :
    CallW Tryz.prog w0 70 [.ptr b 0, .int .i64 most] σ (fun r s' => r = .str (t2 v s most).1 ∧ s' = σ.setBox b (rd2 v (t2 v s most).2)) := by
  obtain ⟨a, bad⟩ := s
  refine CallW.x (B := [(b, rd2 v (a, bad))]) Ty.tok Ty.mixed Tryz.func70 rfl Tryz.ntmps70 rfl (by simp) (by decide +kernel) ⟨by simpa using hb, by simp⟩ ?_
  have hgn := getText_any w0 v .no a most (by omega) (by omega) (by omega)
  have hn2 : t2 v (a, bad) most = if bad = true ∨ (getText v a most).2.2 ≠ 0 then ([], a, true) else ((getText v a most).1, (getText v a most).2.1, false) := rfl
  generalize getText v a most = g at hgn hn2
  obtain ⟨n, k, e⟩ := g
  cases bad with
  | true =>
    rw [hn2, if_pos (.inl rfl)]
    (conv => whnf); refine SReg.d [0, 1, 2, 4, 5, 6, 8, 3, 7, 9, 10, 11, 12, 13, 14, 15, 16] [0, 0, 0, 1, 0, 0, 0, 1, 0, 0, 0, 0, 0, 0, 0, 0, 0] (by decide +kernel) ?_; (conv => whnf); (conv => whnf); refine SLoad.on 0 rfl ?_; (conv => whnf); refine SLoad.on 0 rfl ?_; (conv => whnf); refine SCall.p (by exact hgn) ?_; (conv => whnf); refine SLoad.on 0 rfl ?_; (conv => whnf); refine SCond.y (by exact rfl) ?_; (conv => whnf); refine SCond.y (by exact rfl) ?_; (conv => whnf)
    refine SPick.y (by exact rfl) ?_; (conv => whnf); refine SStore.on 0 rfl ?_; (conv => whnf); refine SLoad.on 0 rfl ?_; (conv => whnf); refine SIf.y Ty.mixed (by exact rfl) ?_; (conv => whnf); exact .p (.refl _) rfl
  | false =>
    by_cases he : e = 0
    · subst he
      rw [hn2, if_neg (by simp)]
      (conv => whnf); refine SReg.d [0, 1, 2, 4, 5, 6, 8, 3, 7, 9, 10, 11, 12, 13, 14, 15, 16] [0, 0, 0, 1, 0, 0, 0, 1, 0, 0, 0, 0, 0, 0, 0, 0, 0] (by decide +kernel) ?_; (conv => whnf); (conv => whnf); refine SLoad.on 0 rfl ?_; (conv => whnf); refine SLoad.on 0 rfl ?_; (conv => whnf); refine SCall.p (by exact hgn) ?_; (conv => whnf); refine SLoad.on 0 rfl ?_; (conv => whnf); refine SCond.n (by exact rfl) ?_; (conv => whnf); refine SCond.n (by exact rfl) ?_; (conv => whnf)
      refine SPick.n (by exact rfl) ?_; (conv => whnf); refine SStore.on 0 rfl ?_; (conv => whnf); refine SLoad.on 0 rfl ?_; (conv => whnf); refine SIf.n Ty.mixed (by exact rfl) ?_; (conv => whnf); refine SStore.on 0 rfl ?_; (conv => whnf)
      rw [setBox_setBox]
      exact .p (.refl _) rfl
    · have hd : (!decide ((e : Int) = 0)) = true := by simp [he]
      rw [hn2, if_pos (.inr he)]
      (conv => whnf); refine SReg.d [0, 1, 2, 4, 5, 6, 8, 3, 7, 9, 10, 11, 12, 13, 14, 15, 16] [0, 0, 0, 1, 0, 0, 0, 1, 0, 0, 0, 0, 0, 0, 0, 0, 0] (by decide +kernel) ?_; (conv => whnf); (conv => whnf); refine SLoad.on 0 rfl ?_; (conv => whnf); refine SLoad.on 0 rfl ?_; (conv => whnf); refine SCall.p (by exact hgn) ?_; (conv => whnf); refine SLoad.on 0 rfl ?_; (conv => whnf); refine SCond.n (by exact rfl) ?_; (conv => whnf); refine SCond.n (by exact rfl) ?_; (conv => whnf)
      refine SPick.n (by exact rfl) ?_; (conv => whnf); refine SStore.on 0 rfl ?_; (conv => whnf); refine SLoad.on 0 rfl ?_; (conv => whnf); refine SIf.y Ty.mixed (by assumption) ?_; (conv => whnf); refine .p ?_ rfl
      show St.Le (σ.setBox b [_, _, .bool true]) (σ.setBox b [_, _, .bool (!decide ((e : Int) = 0))])
      rw [hd]
      exact .refl _
end Go.Proofs.YtkbmkhhcppfcnaaGreatDoor
end
section
set_option linter.unusedVariables false
set_option linter.unusedSimpArgs false
set_option maxRecDepth 100000
set_option maxHeartbeats 1000000
namespace Go.Proofs.YtkbmkhhcppfcnaaGreatDoor
open Go.Al Go.RowKit
theorem rnum2_s (w0 : Base) (v : List UInt8) (s : Nat × Bool) (b : Nat) (σ : St) (hv : v.length ≤ 1000000) (ha : s.1 ≤ 1000000) (hb : σ.box b = some (rd2 v s)) :
    CallW Tryz.prog w0 82 [.ptr b 0] σ (fun r s' => r = .int .i64 ((n2 v s).1 : Nat) ∧ s' = σ.setBox b (rd2 v (n2 v s).2)) := rnum2_any w0 v s.1 s.2 b σ hv ha hb
theorem rtext2_s (w0 : Base) (v : List UInt8) (s : Nat × Bool) (most : Nat) (b : Nat) (σ : St) (hv : v.length ≤ 1000000) (ha : s.1 ≤ 1000000) (hm : most ≤ 1000) (hb : σ.box b = some (rd2 v s)) :
    CallW Tryz.prog w0 84 [.ptr b 0, .int .i64 most] σ (fun r s' => r = .str (t2 v s most).1 ∧ s' = σ.setBox b (rd2 v (t2 v s most).2)) := rtext2_any w0 v s.1 s.2 most b σ hv ha hm hb
def mc (m : Msg) : List AV := [.int .i64 m.seq, .str m.body, .str m.attr, .int .i64 m.tries, .int .i64 m.until_, .bool m.dead, .str m.why, .int .i64 m.prio]
def MsgW (w0 : Base) (f : FuncId) (g : List UInt8 → Msg → Msg) : Prop := ∀ (v : List UInt8) (m : Msg) (bx bm br : Nat) (pre post : List AV) (σ : St), v.length ≤ 1000000 → σ.box bm = some (pre ++ mc m ++ post) → σ.box br = some (rd2 v (0, false)) → bm ≠ br →
  CallW Tryz.prog w0 f [.ptr bx 0, .ptr bm pre.length, .ptr br 0] σ (fun r s => r = .tup [] ∧ ∃ s', s = (σ.setBox br (rd2 v s')).setBox bm (pre ++ mc (g v m) ++ post))
theorem tB_any (w0 : Base) : MsgW w0 83 mB := by
  intro v m bx bm br pre post σ hv hm hr hne
  refine CallW.x (B := [(br, rd2 v (0, false)), (bm, pre ++ mc m ++ post)]) Ty.tok Ty.mixed Tryz.func83 rfl Tryz.ntmps83 rfl (by simp) (by decide +kernel) ⟨by simp [hr, hm], by simp [Ne.symm hne]⟩ ?_
  (conv => whnf); refine SCall.b 0 (fun hb => by exact rtext2_s w0 v _ 60 br _ hv (Nat.zero_le _) (by decide) hb) rfl rfl ?_; (conv => whnf); refine SStore.mid 1 _ rfl rfl (Nat.le_of_ble_eq_true rfl) ?_; (conv => whnf); exact .w ⟨rfl, _, rfl⟩
theorem tQ_any (w0 : Base) : MsgW w0 86 mQ := by
  intro v m bx bm br pre post σ hv hm hr hne
  refine CallW.x (B := [(br, rd2 v (0, false)), (bm, pre ++ mc m ++ post)]) Ty.tok Ty.mixed Tryz.func86 rfl Tryz.ntmps86 rfl (by simp) (by decide +kernel) ⟨by simp [hr, hm], by simp [Ne.symm hne]⟩ ?_
  have f1 := t2_far v (0, false) 30
  have f2 := n2_far v (t2 v (0, false) 30).2
  have f3 := n2_far v (n2 v (t2 v (0, false) 30).2).2
  (conv => whnf); refine SCall.b 0 (fun hb => by first | exact rtext2_s w0 v _ 30 br _ hv (Nat.zero_le _) (by decide) hb | exact rnum2_s w0 v _ br _ hv (by omega) hb) rfl rfl ?_; (conv => whnf); refine SCall.b 0 (fun hb => by first | exact rtext2_s w0 v _ 30 br _ hv (Nat.zero_le _) (by decide) hb | exact rnum2_s w0 v _ br _ hv (by omega) hb) rfl rfl ?_; (conv => whnf)
  refine SCall.b 0 (fun hb => by first | exact rtext2_s w0 v _ 30 br _ hv (Nat.zero_le _) (by decide) hb | exact rnum2_s w0 v _ br _ hv (by omega) hb) rfl rfl ?_; (conv => whnf); refine SStore.mid 1 _ rfl rfl (Nat.le_of_ble_eq_true rfl) ?_; (conv => whnf); refine SStore.mid 1 _ rfl rfl (Nat.le_of_ble_eq_true rfl) ?_; (conv => whnf); refine SStore.mid 1 _ rfl rfl (Nat.le_of_ble_eq_true rfl) ?_
  (conv => whnf); refine SCall.b 0 (fun hb => by first | exact rtext2_s w0 v _ 30 br _ hv (Nat.zero_le _) (by decide) hb | exact rnum2_s w0 v _ br _ hv (by omega) hb) rfl rfl ?_; (conv => whnf); refine SStore.mid 1 _ rfl rfl (Nat.le_of_ble_eq_true rfl) ?_; (conv => whnf)
  have sc : ∀ (s : St) X Y, (s.setBox bm Y).setBox br X = (s.setBox br X).setBox bm Y := fun s X Y => setBox_comm hne
  simp only [setBox_setBox, sc]
  exact .w ⟨rfl, _, rfl⟩
theorem tX_any (w0 : Base) : MsgW w0 88 mX := by
  intro v m bx bm br pre post σ hv hm hr hne
  refine CallW.x (B := [(br, rd2 v (0, false)), (bm, pre ++ mc m ++ post)]) Ty.tok Ty.mixed Tryz.func88 rfl Tryz.ntmps88 rfl (by simp) (by decide +kernel) ⟨by simp [hr, hm], by simp [Ne.symm hne]⟩ ?_
  have f1 := n2_far v (0, false)
  have hw : ∀ n : Nat, ([AV.str [], .str [110, 97, 99, 107], .str [116, 105, 109, 101]] : List AV)[(min (n : Int) 2).toNat]? = some (.str (whyN (min n 2))) := by
    intro n
    by_cases h0 : n = 0
    · subst h0; rfl
    · by_cases h1 : n = 1
      · subst h1; rfl
      · have : (min (n : Int) 2).toNat = 2 := by omega
        have h2 : min n 2 = 2 := by omega
        rw [this, h2]; rfl
  (conv => whnf); refine SCall.b 0 (fun hb => by exact rnum2_s w0 v _ br _ hv (by first | exact Nat.zero_le _ | omega) hb) rfl rfl ?_; (conv => whnf); refine SStore.mid 1 _ rfl rfl (Nat.le_of_ble_eq_true rfl) ?_; (conv => whnf); refine SCall.p (by exact deaths2_any w0) ?_; (conv => whnf)
  refine SCall.b 0 (fun hb => by exact rnum2_s w0 v _ br _ hv (by first | exact Nat.zero_le _ | omega) hb) rfl rfl ?_; (conv => whnf)
  refine ⟨_, ⟨by first | omega | (simp only [List.length_cons, List.length_append, List.length_nil, List.length_map, length_aBytes, List.length_replicate, List.length_range]; omega) | fail, by exact hw _⟩, ?_⟩
  (conv => whnf); refine SStore.mid 1 _ rfl rfl (Nat.le_of_ble_eq_true rfl) ?_; (conv => whnf)
  have sc : ∀ (s : St) X Y, (s.setBox bm Y).setBox br X = (s.setBox br X).setBox bm Y := fun s X Y => setBox_comm hne
  simp only [setBox_setBox, sc]
  exact .w ⟨rfl, _, rfl⟩
def xc (x : Sub) (ac qv : AV) : List AV := [.int .i64 x.id, .str x.name, .str x.topic, .str x.want, .int .i64 x.lease, .int .i64 x.most, .int .i64 x.floor, ac, qv, .str x.note]
theorem tN_any (w0 : Base) (v : List UInt8) (x : Sub) (ac qv : AV) (bx br bm o : Nat) (σ : St) (hv : v.length ≤ 1000000) (hx : σ.box bx = some (xc x ac qv)) (hr : σ.box br = some (rd2 v (0, false))) (hne : bx ≠ br) :
    CallW Tryz.prog w0 85 [.ptr bx 0, .ptr bm o, .ptr br 0] σ (fun r s => r = .tup [] ∧ ∃ s', s = (σ.setBox br (rd2 v s')).setBox bx (xc { x with note := (t2 v (0, false) 30).1 } ac qv)) := by
  refine CallW.x (B := [(br, rd2 v (0, false)), (bx, xc x ac qv)]) Ty.tok Ty.mixed Tryz.func85 rfl Tryz.ntmps85 rfl (by simp) (by decide +kernel) ⟨by simp [hr, hx], by simp [Ne.symm hne]⟩ ?_
  (conv => whnf); refine SCall.b 0 (fun hb => by exact rtext2_s w0 v _ 30 br _ hv (Nat.zero_le _) (by decide) hb) rfl rfl ?_; (conv => whnf); refine SStore.on 1 rfl ?_; (conv => whnf); exact .w ⟨rfl, _, rfl⟩
theorem tS_any (w0 : Base) (v : List UInt8) (x : Sub) (ac qv : AV) (bx br bm o : Nat) (σ : St) (hv : v.length ≤ 1000000) (hx : σ.box bx = some (xc x ac qv)) (hr : σ.box br = some (rd2 v (0, false))) (hne : bx ≠ br) :
    CallW Tryz.prog w0 87 [.ptr bx 0, .ptr bm o, .ptr br 0] σ (fun r s => r = .tup [] ∧ ∃ s', s = (σ.setBox br (rd2 v s')).setBox bx (xc (sS v x) ac qv)) := by
  refine CallW.x (B := [(br, rd2 v (0, false)), (bx, xc x ac qv)]) Ty.tok Ty.mixed Tryz.func87 rfl Tryz.ntmps87 rfl (by simp) (by decide +kernel) ⟨by simp [hr, hx], by simp [Ne.symm hne]⟩ ?_
  have f1 := t2_far v (0, false) 30
  have f2 := t2_far v (t2 v (0, false) 30).2 30
  have f3 := t2_far v (t2 v (t2 v (0, false) 30).2 30).2 30
  have f4 := n2_far v (t2 v (t2 v (t2 v (0, false) 30).2 30).2 30).2
  have f5 := n2_far v (n2 v (t2 v (t2 v (t2 v (0, false) 30).2 30).2 30).2).2
  (conv => whnf); refine SCall.b 0 (fun hb => by first | exact rtext2_s w0 v _ 30 br _ hv (by first | exact Nat.zero_le _ | omega) (by decide) hb | exact rnum2_s w0 v _ br _ hv (by omega) hb) rfl rfl ?_; (conv => whnf)
  refine SCall.b 0 (fun hb => by first | exact rtext2_s w0 v _ 30 br _ hv (by first | exact Nat.zero_le _ | omega) (by decide) hb | exact rnum2_s w0 v _ br _ hv (by omega) hb) rfl rfl ?_; (conv => whnf); refine SCall.b 0 (fun hb => by first | exact rtext2_s w0 v _ 30 br _ hv (by first | exact Nat.zero_le _ | omega) (by decide) hb | exact rnum2_s w0 v _ br _ hv (by omega) hb) rfl rfl ?_
  (conv => whnf); refine SStore.on 1 rfl ?_; (conv => whnf); refine SStore.on 1 rfl ?_; (conv => whnf); refine SStore.on 1 rfl ?_; (conv => whnf); refine SCall.b 0 (fun hb => by first | exact rtext2_s w0 v _ 30 br _ hv (by first | exact Nat.zero_le _ | omega) (by decide) hb | exact rnum2_s w0 v _ br _ hv (by omega) hb) rfl rfl ?_; (conv => whnf)
  refine SCall.b 0 (fun hb => by first | exact rtext2_s w0 v _ 30 br _ hv (by first | exact Nat.zero_le _ | omega) (by decide) hb | exact rnum2_s w0 v _ br _ hv (by omega) hb) rfl rfl ?_; (conv => whnf); refine SCall.b 0 (fun hb => by first | exact rtext2_s w0 v _ 30 br _ hv (by first | exact Nat.zero_le _ | omega) (by decide) hb | exact rnum2_s w0 v _ br _ hv (by omega) hb) rfl rfl ?_
  (conv => whnf); refine SStore.on 1 rfl ?_; (conv => whnf); refine SStore.on 1 rfl ?_; (conv => whnf); refine SStore.on 1 rfl ?_; (conv => whnf)
  have sc : ∀ (s : St) X Y, (s.setBox bx Y).setBox br X = (s.setBox br X).setBox bx Y := fun s X Y => setBox_comm hne
  simp only [setBox_setBox, sc]
  exact .w ⟨rfl, _, rfl⟩
end Go.Proofs.YtkbmkhhcppfcnaaGreatDoor
end
section
set_option linter.unusedVariables false
set_option linter.unusedSimpArgs false
set_option maxRecDepth 100000
set_option maxHeartbeats 1000000
namespace Go.Proofs.YtkbmkhhcppfcnaaGreatDoor
open Go.Al Go.RowKit
structure XAt (τ σ : St) (bx : Nat) (x : Sub) (ac qv : AV) (ra rq : Option Nat) : Prop where
  le : St.Le τ σ
  hbx : σ.box bx = some (xc x ac qv)
  bxn : τ.box bx = none
  a : RowV σ 1 (x.acks.map (AV.int .i64)) ac ra
  q : RowV σ 8 (x.queue.map eMsg) qv rq
  an : ∀ b, ra = some b → τ.box b = none ∧ b ≠ bx
  qn : ∀ b, rq = some b → τ.box b = none ∧ b ≠ bx
  aq : ∀ b, ra = some b → rq ≠ some b
theorem XAt.ra_ne {τ σ : St} {bx : Nat} {x : Sub} {ac qv : AV} {ra rq : Option Nat} (h : XAt τ σ bx x ac qv ra rq) {c : Nat} (hc : σ.box c = none) : ra ≠ some c := by
  intro e; subst e; exact RowV.has h.a hc
theorem XAt.rq_ne {τ σ : St} {bx : Nat} {x : Sub} {ac qv : AV} {ra rq : Option Nat} (h : XAt τ σ bx x ac qv ra rq) {c : Nat} (hc : σ.box c = none) : rq ≠ some c := by
  intro e; subst e; exact RowV.has h.q hc
theorem XAt.other {τ σ : St} {bx : Nat} {x : Sub} {ac qv : AV} {ra rq : Option Nat} (h : XAt τ σ bx x ac qv ra rq) {c : Nat} (hc : τ.box c = none) (h1 : c ≠ bx) (h2 : ra ≠ some c) (h3 : rq ≠ some c) (ds : List AV) : XAt τ (σ.setBox c ds) bx x ac qv ra rq :=
  ⟨le_setBox h.le hc, by rw [setBox_ne (Ne.symm h1)]; exact h.hbx, h.bxn, h.a.set h2, h.q.set h3, h.an, h.qn, h.aq⟩
theorem XAt.own {τ σ : St} {bx : Nat} {x : Sub} {ac qv : AV} {ra rq : Option Nat} (h : XAt τ σ bx x ac qv ra rq) (y : Sub) (ha : y.acks = x.acks) (hq : y.queue = x.queue) : XAt τ (σ.setBox bx (xc y ac qv)) bx y ac qv ra rq :=
  ⟨le_setBox h.le h.bxn, setBox_same, h.bxn, by rw [ha]; exact h.a.set (fun e => (h.an _ e).2 rfl), by rw [hq]; exact h.q.set (fun e => (h.qn _ e).2 rfl), h.an, h.qn, h.aq⟩
theorem XAt.grow {τ σ : St} {bx : Nat} {x : Sub} {ac qv : AV} {ra rq : Option Nat} (h : XAt τ σ bx x ac qv ra rq) {c : Nat} (hc : σ.box c = none) (ds : List AV) : XAt (τ.setBox c ds) (σ.setBox c ds) bx x ac qv ra rq := by
  have hbx : bx ≠ c := by rintro rfl; rw [h.hbx] at hc; cases hc
  have hn : ∀ b, b ≠ c → τ.box b = none → (τ.setBox c ds).box b = none := fun b hb e => by rw [setBox_ne hb]; exact e
  refine ⟨⟨fun i cs e => ?_, fun p e => h.le.tok p e, h.le.obj⟩, by rw [setBox_ne hbx]; exact h.hbx, hn _ hbx h.bxn, h.a.set (h.ra_ne hc), h.q.set (h.rq_ne hc), fun b e => ⟨hn b (fun e2 => h.ra_ne hc (by rw [e, e2])) (h.an b e).1, (h.an b e).2⟩, fun b e => ⟨hn b (fun e2 => h.rq_ne hc (by rw [e, e2])) (h.qn b e).1, (h.qn b e).2⟩, h.aq⟩
  by_cases hi : i = c
  · subst hi; rw [setBox_same] at e ⊢; exact e
  · rw [setBox_ne hi] at e ⊢; exact h.le.box i cs e
theorem XAt.less {τ τ' σ : St} {bx : Nat} {x : Sub} {ac qv : AV} {ra rq : Option Nat} (h : XAt τ σ bx x ac qv ra rq) (hl : St.Le τ' τ) : XAt τ' σ bx x ac qv ra rq :=
  ⟨hl.trans h.le, h.hbx, le_none hl h.bxn, h.a, h.q, fun b e => ⟨le_none hl (h.an b e).1, (h.an b e).2⟩, fun b e => ⟨le_none hl (h.qn b e).1, (h.qn b e).2⟩, h.aq⟩
theorem ints_sz (l : List Int) : ∀ x ∈ l.map (AV.int .i64), x.cells.length = 1 := fun x hx => by
  obtain ⟨n, _, rfl⟩ := List.mem_map.1 hx; rfl
theorem msgs_sz (l : List Msg) : ∀ x ∈ l.map eMsg, x.cells.length = 8 := fun x hx => by
  obtain ⟨n, _, rfl⟩ := List.mem_map.1 hx; rfl
theorem g2_stop (v : List UInt8) (n : Nat) (s : Nat × Bool) (acc : List Int) (h : s.2 = true) : gp2 v n s acc = (acc, s) := by
  cases n with
  | zero => rfl
  | succ n => rw [gp2, if_pos h]
theorem n2_gt (v : List UInt8) (s : Nat × Bool) (h : (n2 v s).2.2 = false) : s.1 < (n2 v s).2.1 := by
  unfold n2 at h ⊢
  split at h
  · cases h
  · rename_i hc
    rw [if_neg hc]
    exact getNum_gt v s.1 (by simp at hc; exact hc.2)
theorem XAt.appA {τ st σ' : St} {bx br : Nat} {x : Sub} {ac qv : AV} {ra rq : Option Nat} {rs : List AV} (h : XAt τ st bx x ac qv ra rq) (hrn : τ.box br = none) (hbr : br ≠ bx) (h1 : ra ≠ some br) (h2 : rq ≠ some br) {n : Int} {b' cap' : Nat}
    (hR : RowV σ' 1 (x.acks.map (AV.int .i64) ++ [.int .i64 n]) (.msl b' 0 ((x.acks.map (AV.int .i64)).length + 1) cap') (some b')) (hf : ra = some b' ∨ (st.setBox br rs).box b' = none) (hk : ∀ i cs, ra ≠ some i → (st.setBox br rs).box i = some cs → σ'.box i = some cs) (ht : σ'.tok = (st.setBox br rs).tok ∧ σ'.obj = (st.setBox br rs).obj) :
    XAt τ (σ'.setBox bx (xc { x with acks := x.acks ++ [n] } (.msl b' 0 ((x.acks.map (AV.int .i64)).length + 1) cap') qv)) bx { x with acks := x.acks ++ [n] } (.msl b' 0 ((x.acks.map (AV.int .i64)).length + 1) cap') qv (some b') rq ∧ some b' ≠ some br := by
  have hb : τ.box b' = none ∧ b' ≠ bx ∧ rq ≠ some b' ∧ b' ≠ br := by
    rcases hf with hf | hf
    · exact ⟨(h.an _ hf).1, (h.an _ hf).2, h.aq _ hf, fun e => h1 (by rw [hf, e])⟩
    · have hne : b' ≠ br := by rintro rfl; rw [setBox_same] at hf; cases hf
      rw [setBox_ne hne] at hf
      exact ⟨le_none h.le hf, fun e => (by subst e; rw [h.hbx] at hf; cases hf), h.rq_ne hf, hne⟩
  obtain ⟨hb1, hb2, hb3, hb4⟩ := hb
  refine ⟨⟨le_setBox ⟨fun i cs e => hk i cs (fun e2 => ?_) ?_, fun p e => by rw [ht.1]; exact h.le.tok p e, fun l o e => by rw [ht.2]; exact h.le.obj l o e⟩ h.bxn, setBox_same, h.bxn, ?_, ?_, fun b e => ?_, h.qn, fun b e => ?_⟩, fun e => hb4 (Option.some.inj e)⟩
  · have := (h.an _ e2).1
    rw [e] at this; cases this
  · rw [setBox_ne (fun e2 => by subst e2; rw [hrn] at e; cases e)]; exact h.le.box i cs e
  · have e1 : ({ x with acks := x.acks ++ [n] } : Sub).acks.map (AV.int .i64) = x.acks.map (AV.int .i64) ++ [.int .i64 n] := by simp
    rw [e1]
    exact hR.set (fun e => hb2 (Option.some.inj e))
  · refine ((h.q.set (c := br) (ds := rs) h2).keep fun b cs e hbb => hk b cs (fun e2 => h.aq _ e2 e) hbb).set fun e => (h.qn _ e).2 rfl
  · cases e; exact ⟨hb1, hb2⟩
  · cases e; exact hb3
theorem XAt.appQ {τ st σ' : St} {bx : Nat} {x : Sub} {ac qv : AV} {ra rq : Option Nat} (h : XAt τ st bx x ac qv ra rq) {m : Msg} {b' n' cap' : Nat}
    (hR : RowV σ' 8 (x.queue.map eMsg ++ [eMsg m]) (.msl b' 0 n' cap') (some b')) (hf : rq = some b' ∨ st.box b' = none) (hk : ∀ i cs, rq ≠ some i → st.box i = some cs → σ'.box i = some cs) (ht : σ'.tok = st.tok ∧ σ'.obj = st.obj) :
    XAt τ (σ'.setBox bx (xc { x with queue := x.queue ++ [m] } ac (.msl b' 0 n' cap'))) bx { x with queue := x.queue ++ [m] } ac (.msl b' 0 n' cap') ra (some b') := by
  have hb : τ.box b' = none ∧ b' ≠ bx ∧ ra ≠ some b' := by
    rcases hf with hf | hf
    · exact ⟨(h.qn _ hf).1, (h.qn _ hf).2, fun e => h.aq _ e hf⟩
    · exact ⟨le_none h.le hf, fun e => (by subst e; rw [h.hbx] at hf; cases hf), h.ra_ne hf⟩
  obtain ⟨hb1, hb2, hb3⟩ := hb
  refine ⟨le_setBox ⟨fun i cs e => hk i cs (fun e2 => ?_) (h.le.box i cs e), fun p e => by rw [ht.1]; exact h.le.tok p e, fun l o e => by rw [ht.2]; exact h.le.obj l o e⟩ h.bxn, setBox_same, h.bxn, ?_, ?_, h.an, fun b e => ?_, fun b e e2 => ?_⟩
  · have := (h.qn _ e2).1
    rw [e] at this; cases this
  · exact (h.a.keep fun b cs e hbb => hk b cs (fun e2 => h.aq _ e e2) hbb).set fun e => (h.an _ e).2 rfl
  · have e1 : ({ x with queue := x.queue ++ [m] } : Sub).queue.map eMsg = x.queue.map eMsg ++ [eMsg m] := by simp
    rw [e1]
    exact hR.set (fun e => hb2 (Option.some.inj e))
  · cases e; exact ⟨hb1, hb2⟩
  · cases e2; exact hb3 e
theorem tA_any (w0 : Base) (v : List UInt8) (x : Sub) (ac qv : AV) (ra rq : Option Nat) (τ : St) (bx br bm o : Nat) (σ : St) (hv : v.length ≤ 1000000) (hn : x.acks.length ≤ 1000000) (hx : XAt τ σ bx x ac qv ra rq) (hr : σ.box br = some (rd2 v (0, false))) (hrn : τ.box br = none) (hbr : br ≠ bx) (h1 : ra ≠ some br) (h2 : rq ≠ some br) :
    CallW Tryz.prog w0 81 [.ptr bx 0, .ptr bm o, .ptr br 0] σ (fun r s => r = .tup [] ∧ ∃ ac' ra', XAt τ s bx { x with acks := (gp2 v (n2 v (0, false)).1 (n2 v (0, false)).2 x.acks).1 } ac' qv ra' rq) := by
  refine CallW.x (B := [(br, rd2 v (0, false)), (bx, xc x ac qv)]) Ty.tok Ty.mixed Tryz.func81 rfl Tryz.ntmps81 rfl (by simp) (by decide +kernel) ⟨by simp [hr, hx.hbx], by simp [hbr]⟩ ?_
  have f1 := n2_far v (0, false)
  have f2 := n2_max v (0, false)
  (conv => whnf); refine SCall.b 0 (fun hb => by exact rnum2_s w0 v _ br _ hv (by exact Nat.zero_le _) hb) rfl rfl ?_; (conv => whnf); refine SLoop.by2 Ty.mixed (fun (a : Nat × (Nat × Bool) × List Int × AV × Option Nat) => a.1) (fun (n, s, acc, av, r) => [(0, .ptr bx 0), (2, .ptr br 0), (6, .int .i64 n)]) (fun (n, s, acc, av, r) => [(br, rd2 v s), (bx, xc { x with acks := acc } av qv)])
    (fun (n, s, acc, av, r) st => n ≤ 9007199254740992 ∧ s.1 ≤ v.length ∧ (s.2 = false → acc.length ≤ x.acks.length + s.1) ∧ acc.length ≤ x.acks.length + v.length + 1 ∧ gp2 v (n2 v (0, false)).1 (n2 v (0, false)).2 x.acks = gp2 v n s acc ∧ XAt τ st bx { x with acks := acc } av qv r rq ∧ r ≠ some br)
    ((n2 v (0, false)).1, (n2 v (0, false)).2, x.acks, ac, ra) ⟨by repeat (first | exact trivial | refine ⟨by first | trivial | exact Weak.refl _ | exact Weak.tok _ _ _ | exact Weak.of_eq (congrArg (AV.int _) (by omega)) | exact Weak.of_eq (congrArg AV.bool (by fail)) | exact Weak.nils _ _ (.inr rfl), ?_⟩), .refl _, f2, by omega, fun _ => by omega, by omega, rfl, hx.other hrn hbr h1 h2 _, h1⟩ ?_
  rintro ⟨n, s, acc, av, r⟩ st ⟨hn1, hs1, hac0, hac, hg, hxa, hrr⟩ hK
  obtain ⟨a, bad⟩ := s
  refine ⟨_, hK, ?_⟩
  by_cases hn0 : n = 0
  · subst hn0
    have d0 : decide ((0 : Int) < ((0 : Nat) : Int)) = false := rfl
    (conv => whnf); refine SCond.n (by exact rfl) ?_; (conv => whnf); refine SCond.n (by exact rfl) ?_; (conv => whnf); refine SCond.n (by exact rfl) ?_; (conv => whnf); refine SCond.n (by exact rfl) ?_; (conv => whnf); refine SCond.n (by exact rfl) ?_; (conv => whnf); refine SPick.n (by exact rfl) ?_; (conv => whnf); refine SIf.n Ty.mixed (by exact rfl) ?_; (conv => whnf)
    refine .w ⟨rfl, av, r, ?_⟩
    rw [hg, gp2]
    exact hxa
  · obtain ⟨n, rfl⟩ : ∃ k, n = k + 1 := ⟨n - 1, by omega⟩
    have d0 : decide ((0 : Int) < ((n + 1 : Nat) : Int)) = true := decide_eq_true (by omega)
    cases bad with
    | true =>
      (conv => whnf); refine SCond.y (by assumption) ?_; (conv => whnf); refine SCond.y (by assumption) ?_; (conv => whnf); refine SCond.y (by assumption) ?_; (conv => whnf); refine SCond.y (by assumption) ?_; (conv => whnf); refine SLoad.on 0 rfl ?_; (conv => whnf); refine SCond.y (by assumption) ?_; (conv => whnf); refine SPick.y (by assumption) ?_; (conv => whnf)
      refine SIf.n Ty.mixed (by exact rfl) ?_; (conv => whnf); refine .w ⟨rfl, av, r, ?_⟩
      rw [hg, g2_stop v _ _ _ rfl]
      exact hxa
    | false =>
      have f3 := n2_far v (a, false)
      simp only at hs1 hac0
      have hac1 := hac0 trivial
      have hg' : gp2 v (n + 1) (a, false) acc = gp2 v n (n2 v (a, false)).2 (acc ++ [((n2 v (a, false)).1 : Int)]) := by rw [gp2, if_neg (by simp)]
      have f4 := n2_gt v (a, false)
      have hRs := RowV.set (c := br) (ds := rd2 v (n2 v (a, false)).2) hxa.a hrr
      have fin : ∀ (b' cap' : Nat) (σ' : St), RowV σ' 1 (acc.map (AV.int .i64) ++ [.int .i64 ((n2 v (a, false)).1 : Nat)]) (.msl b' 0 ((acc.map (AV.int .i64)).length + 1) cap') (some b') → (r = some b' ∨ (st.setBox br (rd2 v (n2 v (a, false)).2)).box b' = none) → (∀ i cs, r ≠ some i → (st.setBox br (rd2 v (n2 v (a, false)).2)).box i = some cs → σ'.box i = some cs) → (σ'.tok = (st.setBox br (rd2 v (n2 v (a, false)).2)).tok ∧ σ'.obj = (st.setBox br (rd2 v (n2 v (a, false)).2)).obj) →
          n ≤ 9007199254740992 ∧ (n2 v (a, false)).2.1 ≤ v.length ∧ ((n2 v (a, false)).2.2 = false → (acc ++ [((n2 v (a, false)).1 : Int)]).length ≤ x.acks.length + (n2 v (a, false)).2.1) ∧ (acc ++ [((n2 v (a, false)).1 : Int)]).length ≤ x.acks.length + v.length + 1 ∧ gp2 v (n2 v (0, false)).1 (n2 v (0, false)).2 x.acks = gp2 v n (n2 v (a, false)).2 (acc ++ [((n2 v (a, false)).1 : Int)]) ∧
          XAt τ (σ'.setBox bx (xc { x with acks := acc ++ [((n2 v (a, false)).1 : Int)] } (.msl b' 0 ((acc.map (AV.int .i64)).length + 1) cap') qv)) bx { x with acks := acc ++ [((n2 v (a, false)).1 : Int)] } (.msl b' 0 ((acc.map (AV.int .i64)).length + 1) cap') qv (some b') rq ∧ some b' ≠ some br := fun b' cap' σ' q1 q2 q3 q4 => by
        obtain ⟨r1, r2⟩ := XAt.appA hxa hrn hbr hrr h2 q1 q2 q3 q4
        simp only [List.length_append, List.length_singleton]
        exact ⟨by omega, by omega, fun e => by have := f4 e; simp only at this; omega, by omega, hg.trans hg', r1, r2⟩
      cases hxa.a with
      | nil h0 =>
        (conv => whnf); refine SCond.y (by assumption) ?_; (conv => whnf); refine SCond.y (by assumption) ?_; (conv => whnf); refine SCond.y (by assumption) ?_; (conv => whnf); refine SCond.y (by assumption) ?_; (conv => whnf); refine SLoad.on 0 rfl ?_; (conv => whnf); refine SCond.y (by assumption) ?_; (conv => whnf); refine SPick.y (by assumption) ?_; (conv => whnf)
        refine SIf.y Ty.mixed (by exact rfl) ?_; (conv => whnf); refine SReg.h 1 rfl [0, 1, 2, 3, 5, 4, 6, 7, 8, 9, 10, 11] [0, 0, 0, 0, 3, 0, 4, 0, 2, 0, 0, 2] (by decide +kernel) ?_; (conv => whnf); (conv => whnf); refine SLoadH.on 1 rfl rfl ?_; (conv => whnf); refine SCall.bH 0 (fun hb => by exact rnum2_s w0 v _ br _ hv (by omega) hb) rfl rfl (by intro p hp; cases hp; exact Ne.symm (by assumption)) ?_; (conv => whnf)
        refine SApp.row rfl hRs rfl (ints_sz _) rfl (by simp only [List.length_map]; omega) (by simp) fun b' cap' σ' q1 q2 q3 q4 => ?_
        (conv => whnf); refine SStore.on 1 rfl ?_; (conv => whnf); refine ⟨_, IntWalk.i64_in _ (by omega), ?_⟩; (conv => whnf)
        exact ⟨(n, (n2 v (a, false)).2, acc ++ [((n2 v (a, false)).1 : Int)], _, _), Nat.lt_succ_self n, by repeat (first | exact trivial | refine ⟨by first | trivial | exact Weak.refl _ | exact Weak.tok _ _ _ | exact Weak.of_eq (congrArg (AV.int _) (by omega)) | exact Weak.of_eq (congrArg AV.bool (by fail)) | exact Weak.nils _ _ (.inr rfl), ?_⟩), .refl _, fin b' cap' σ' q1 q2 q3 q4⟩
      | own b cap junk hb hc hl =>
        (conv => whnf); refine SCond.y (by assumption) ?_; (conv => whnf); refine SCond.y (by assumption) ?_; (conv => whnf); refine SCond.y (by assumption) ?_; (conv => whnf); refine SCond.y (by assumption) ?_; (conv => whnf); refine SLoad.on 0 rfl ?_; (conv => whnf); refine SCond.y (by assumption) ?_; (conv => whnf); refine SPick.y (by assumption) ?_; (conv => whnf)
        refine SIf.y Ty.mixed (by exact rfl) ?_; (conv => whnf); refine SReg.h 1 rfl [0, 1, 2, 3, 5, 4, 6, 7, 8, 9, 10, 11] [0, 0, 0, 0, 3, 0, 4, 0, 2, 0, 0, 2] (by decide +kernel) ?_; (conv => whnf); (conv => whnf); refine SLoadH.on 1 rfl rfl ?_; (conv => whnf); refine SCall.bH 0 (fun hb => by exact rnum2_s w0 v _ br _ hv (by omega) hb) rfl rfl (by intro p hp; cases hp; exact Ne.symm (by assumption)) ?_; (conv => whnf)
        refine SApp.row rfl hRs rfl (ints_sz _) rfl (by simp only [List.length_map]; omega) (by simp only [List.mem_cons, List.not_mem_nil, or_false, forall_eq_or_imp, forall_eq]; exact ⟨hrr, fun e => (hxa.an _ e).2 rfl⟩) fun b' cap' σ' q1 q2 q3 q4 => ?_
        (conv => whnf); refine SStore.on 1 rfl ?_; (conv => whnf); refine ⟨_, IntWalk.i64_in _ (by omega), ?_⟩; (conv => whnf)
        exact ⟨(n, (n2 v (a, false)).2, acc ++ [((n2 v (a, false)).1 : Int)], _, _), Nat.lt_succ_self n, by repeat (first | exact trivial | refine ⟨by first | trivial | exact Weak.refl _ | exact Weak.tok _ _ _ | exact Weak.of_eq (congrArg (AV.int _) (by omega)) | exact Weak.of_eq (congrArg AV.bool (by fail)) | exact Weak.nils _ _ (.inr rfl), ?_⟩), .refl _, fin b' cap' σ' q1 q2 q3 q4⟩
end Go.Proofs.YtkbmkhhcppfcnaaGreatDoor
end
section
set_option linter.unusedVariables false
set_option linter.unusedSimpArgs false
set_option maxRecDepth 100000
set_option maxHeartbeats 1000000
namespace Go.Proofs.YtkbmkhhcppfcnaaGreatDoor
open Go.Al Go.RowKit
def tabs2 : List AV := [.int .u8 97, .fn (.func 81) [] [], .int .u8 98, .fn (.func 83) [] [], .int .u8 110, .fn (.func 85) [] [], .int .u8 113, .fn (.func 86) [] [], .int .u8 115, .fn (.func 87) [] [], .int .u8 120, .fn (.func 88) [] []]
theorem tables2_any (w0 : Base) : CallP Tryz.prog w0 49 [] (.agg tabs2) := by
  refine CallP.x Ty.tok Ty.mixed Tryz.func49 rfl Tryz.ntmps49 rfl (by simp) (by decide +kernel) fun σ => ?_
  (conv => whnf); intro b1 hb1; (conv => whnf); refine SStore.on 0 rfl ?_; (conv => whnf); refine SLoad.on 0 rfl ?_; (conv => whnf)
  exact .p (by repeat (first | assumption | exact .refl _ | refine le_setBox ?_ (by first | assumption | exact none_in (by assumption) | exact none_in (none_in (by assumption)) | exact none_in (none_in (none_in (by assumption))) | fail) | exact Moves.le (by assumption) | refine .trans ?_ (Moves.le (by assumption)))) rfl
theorem isSeq_any (w0 : Base) (m : Msg) (seq : Int) : CallP Tryz.prog w0 90 [eMsg m, .vp (.int .i64 seq)] (.bool (decide (m.seq = seq))) := by
  refine CallP.x Ty.tok Ty.mixed Tryz.func90 rfl Tryz.ntmps90 rfl (by simp) (by decide +kernel) fun σ => ?_
  (conv => whnf); refine SBox.f ?_; (conv => whnf); exact .p (.refl _) rfl
def idx2 (seq : Int) (l : List Msg) : Int := match l.findIdx? (fun m => decide (m.seq = seq)) with
  | some i => (i : Nat)
  | none => -1
theorem idx2_at {seq : Int} {l : List Msg} {i : Nat} {m : Msg} (h : ∀ j m', j < i → l[j]? = some m' → m'.seq ≠ seq) (hi : l[i]? = some m) (hm : m.seq = seq) : idx2 seq l = i := by
  have : l.findIdx? (fun m => decide (m.seq = seq)) = some i := by
    obtain ⟨hlt, rfl⟩ := List.getElem?_eq_some_iff.1 hi
    rw [List.findIdx?_eq_some_iff_getElem]
    exact ⟨hlt, by simpa using hm, fun j hj => by simpa using h j _ hj (by simp)⟩
  rw [idx2, this]
theorem idx2_no {seq : Int} {l : List Msg} (h : ∀ j m', j < l.length → l[j]? = some m' → m'.seq ≠ seq) : idx2 seq l = -1 := by
  have : l.findIdx? (fun m => decide (m.seq = seq)) = none := by
    rw [List.findIdx?_eq_none_iff]
    intro x hx
    obtain ⟨j, hj, rfl⟩ := List.getElem_of_mem hx
    simpa using h j _ hj (by simp)
  rw [idx2, this]
theorem indexNil_any (w0 : Base) (seq : Int) : CallP Tryz.prog w0 89 [.nils, .fn (.func 90) [] [.vp (.int .i64 seq)]] (.int .i64 (-1)) := by
  refine CallP.x Ty.tok Ty.mixed Tryz.func89 rfl Tryz.ntmps89 rfl (by simp) (by decide +kernel) fun σ => ?_
  (conv => whnf)
  skip
  refine SLoop.by Ty.mixed (fun (_ : Unit) => 0) (fun _ => [(7, .int .i64 0), (8, .int .i64 0)]) (fun _ => []) (fun _ s => s = σ) () ⟨by repeat (first | exact trivial | refine ⟨by first | trivial | exact Weak.refl _ | exact Weak.tok _ _ _ | exact Weak.of_eq (congrArg (AV.int _) (by omega)) | exact Weak.of_eq (congrArg AV.bool (by fail)) | exact Weak.nils _ _ (.inr rfl), ?_⟩), BSub.none _, rfl⟩ ?_
  rintro _ s rfl; (conv => whnf); refine SIf.n Ty.mixed (by exact rfl) ?_; (conv => whnf); exact .p (.refl _) rfl
def fm (l : List Msg) : List AV := (l.map eMsg).flatMap AV.cells
theorem fm_len (l : List Msg) : (fm l).length = l.length * 8 := by unfold fm; rw [flat_len (msgs_sz l), List.length_map]
theorem fm_split {q : List Msg} {i : Nat} {m : Msg} (h : q[i]? = some m) : fm q = fm (q.take i) ++ mc m ++ fm (q.drop (i + 1)) := by
  obtain ⟨hi, rfl⟩ := List.getElem?_eq_some_iff.1 h
  have e : q = q.take i ++ q[i] :: q.drop (i + 1) := by rw [← List.drop_eq_getElem_cons hi, List.take_append_drop]
  conv => lhs; rw [e]
  simp only [fm, List.map_append, List.map_cons, List.flatMap_append, List.flatMap_cons, List.append_assoc]
  rfl
theorem index_any (w0 : Base) (seq : Int) (q : List Msg) (b cap : Nat) (junk : List AV) (σ : St) (hb : σ.box b = some (fm q ++ junk)) (hl : q.length ≤ 1000000) :
    CallW Tryz.prog w0 89 [.msl b 0 q.length cap, .fn (.func 90) [] [.vp (.int .i64 seq)]] σ (fun r s => r = .int .i64 (idx2 seq q) ∧ s = σ) := by
  refine CallW.x Ty.tok Ty.mixed Tryz.func89 rfl Tryz.ntmps89 rfl (by simp) (by decide +kernel) (.nil σ) ?_; (conv => whnf)
  skip
  refine SLoop.by2 Ty.mixed (fun i => q.length - i) (fun i => [(0, .msl b 0 q.length cap), (1, .fn (.func 90) [] [.vp (.int .i64 seq)]), (7, .int .i64 q.length), (8, .int .i64 i)]) (fun _ => []) (fun i s => i ≤ q.length ∧ (∀ j m', j < i → q[j]? = some m' → m'.seq ≠ seq) ∧ s = σ) 0 ⟨by repeat (first | exact trivial | refine ⟨by first | trivial | exact Weak.refl _ | exact Weak.tok _ _ _ | exact Weak.of_eq (congrArg (AV.int _) (by omega)) | exact Weak.of_eq (congrArg AV.bool (by fail)) | exact Weak.nils _ _ (.inr rfl), ?_⟩), BSub.none _, Nat.zero_le _, fun j m' h => absurd h (Nat.not_lt_zero _), rfl⟩ ?_
  rintro i s ⟨hi, hj, rfl⟩ hK
  by_cases hlt : i < q.length
  · have hc : decide ((i : Int) < (q.length : Nat)) = true := decide_eq_true (by omega)
    have ga : q[i]? = some q[i] := by simp [hlt]
    have hs := fm_split ga
    generalize q[i] = m at ga hs
    rw [hs, List.append_assoc] at hb
    have ho : 0 + (i : Int).toNat * 8 = (fm (q.take i)).length := by rw [fm_len, List.length_take]; simp; omega
    refine ⟨[(b, fm (q.take i) ++ mc m ++ (fm (q.drop (i + 1)) ++ junk))], ⟨by simpa using hb, by simp⟩, ?_⟩
    (conv => whnf); refine SIf.y Ty.mixed (by assumption) ?_; (conv => whnf); refine And.intro (by omega) ?_; (conv => whnf); refine SLoad.midA 0 rfl ho rfl rfl ?_; (conv => whnf); refine SCall.p (by exact isSeq_any w0 m seq) ?_; (conv => whnf)
    (refine SIf.x Ty.mixed (fun hc => ?_) (fun hc => ?_) <;> (conv => whnf))
    · have hm : m.seq = seq := by simpa using hc
      skip
      exact .p (.refl _) (by rw [idx2_at hj ga hm])
    · have hm : m.seq ≠ seq := by simpa using hc
      refine ⟨_, IntWalk.i64_in _ (by omega), ?_⟩; (conv => whnf)
      refine ⟨i + 1, by omega, by repeat (first | exact trivial | refine ⟨by first | trivial | exact Weak.refl _ | exact Weak.tok _ _ _ | exact Weak.of_eq (congrArg (AV.int _) (by omega)) | exact Weak.of_eq (congrArg AV.bool (by fail)) | exact Weak.nils _ _ (.inr rfl), ?_⟩), BSub.none _, by omega, fun j m' h1 h2 => ?_, rfl⟩
      by_cases e : j = i
      · subst e; rw [ga] at h2; cases h2; exact hm
      · exact hj j m' (by omega) h2
  · have hc : decide ((i : Int) < (q.length : Nat)) = false := decide_eq_false (by omega)
    have hge : i = q.length := by omega
    subst hge
    refine ⟨[], .nil _, ?_⟩; (conv => whnf); refine SIf.n Ty.mixed (by assumption) ?_; (conv => whnf); exact .p (.refl _) (by rw [idx2_no hj])
end Go.Proofs.YtkbmkhhcppfcnaaGreatDoor
end
section
set_option linter.unusedVariables false
set_option linter.unusedSimpArgs false
set_option maxRecDepth 100000
set_option maxHeartbeats 1000000
namespace Go.Proofs.YtkbmkhhcppfcnaaGreatDoor
open Go.Al Go.RowKit
inductive PlaceAt (τ s : St) (bx : Nat) (x : Sub) (ra rq : Option Nat) (seq : Int) : Nat → Nat → Prop
  | found (i : Nat) (m : Msg) (b : Nat) (o : Nat) (hr : rq = some b) (hi : x.queue[i]? = some m) (hm : m.seq = seq) (hj : ∀ j m', j < i → x.queue[j]? = some m' → m'.seq ≠ seq) (ho : o = (fm (x.queue.take i)).length) : PlaceAt τ s bx x ra rq seq b o
  | lone (bm : Nat) (hj : ∀ m ∈ x.queue, m.seq ≠ seq) (hb : s.box bm = some (mc (msg0 0))) (hn : τ.box bm = none) (h1 : bm ≠ bx) (h2 : ra ≠ some bm) (h3 : rq ≠ some bm) : PlaceAt τ s bx x ra rq seq bm 0
def queued (t : UInt8) (seq : Int) (x : Sub) : Sub := if t.toNat = 98 then { x with queue := x.queue ++ [msg0 seq] } else x
theorem place_any (w0 : Base) (x : Sub) (ac qv : AV) (ra rq : Option Nat) (τ : St) (bx : Nat) (t : UInt8) (seq : Int) (σ : St) (hn : x.queue.length ≤ 100000) (hx : XAt τ σ bx x ac qv ra rq) :
    CallW Tryz.prog w0 50 [.ptr bx 0, .int .u8 t.toNat, .int .i64 seq] σ (fun r s => ∃ bm o qv' rq', r = .ptr bm o ∧ XAt τ s bx (queued t seq x) ac qv' ra rq' ∧ PlaceAt τ s bx (queued t seq x) ra rq' seq bm o) := by
  refine CallW.x (B := [(bx, xc x ac qv)]) Ty.tok Ty.mixed Tryz.func50 rfl Tryz.ntmps50 rfl (by simp) (by decide +kernel) ⟨by simp [hx.hbx], by simp⟩ ?_
  (conv => whnf); refine SBox.f ?_; (conv => whnf); refine SIf.meet Ty.mixed (fun (a : AV × Option Nat) => [(0, .ptr bx 0), (5, .vp (.int .i64 seq))]) (fun (qv', rq') => [(bx, xc (queued t seq x) ac qv')]) (fun (qv', rq') s => XAt τ s bx (queued t seq x) ac qv' ra rq') (fun hc => ?_) (fun hc => ?_) ?_
  · have ht : t.toNat = 98 := by simp at hc; omega
    have hqd : queued t seq x = { x with queue := x.queue ++ [msg0 seq] } := by rw [queued, if_pos ht]
    rw [hqd]
    cases hx.q with
    | nil h0 =>
      (conv => whnf); refine SReg.d [0, 1, 2, 3, 4, 5, 6, 7, 8, 9, 10, 11] [0, 0, 0, 0, 1, 1, 0, 0, 2, 0, 0, 2] (by decide +kernel) ?_; (conv => whnf); (conv => whnf); refine SLoad.on 0 rfl ?_; (conv => whnf)
      refine SApp.row (n' := (x.queue ++ [msg0 seq]).length) (by simp) hx.q rfl (msgs_sz _) rfl (by simp only [List.length_map]; omega) (by simp) fun b' cap' σ' q1 q2 q3 q4 => ?_
      (conv => whnf); refine SStore.on 0 rfl ?_; (conv => whnf)
      exact ⟨(_, _), by repeat (first | exact trivial | refine ⟨by first | trivial | exact Weak.refl _ | exact Weak.tok _ _ _ | exact Weak.of_eq (congrArg (AV.int _) (by omega)) | exact Weak.of_eq (congrArg AV.bool (by fail)) | exact Weak.nils _ _ (.inr rfl), ?_⟩), .refl _, XAt.appQ (m := msg0 seq) hx q1 q2 q3 q4⟩
    | own b cap junk hb hcp hl =>
      (conv => whnf); refine SReg.d [0, 1, 2, 3, 4, 5, 6, 7, 8, 9, 10, 11] [0, 0, 0, 0, 1, 1, 0, 0, 2, 0, 0, 2] (by decide +kernel) ?_; (conv => whnf); (conv => whnf); refine SLoad.on 0 rfl ?_; (conv => whnf)
      refine SApp.row (n' := (x.queue ++ [msg0 seq]).length) (by simp) hx.q rfl (msgs_sz _) rfl (by simp only [List.length_map]; omega) (by simp only [List.mem_cons, List.not_mem_nil, or_false, forall_eq]; exact fun e => (hx.qn _ e).2 rfl) fun b' cap' σ' q1 q2 q3 q4 => ?_
      (conv => whnf); refine SStore.on 0 rfl ?_; (conv => whnf)
      exact ⟨(_, _), by repeat (first | exact trivial | refine ⟨by first | trivial | exact Weak.refl _ | exact Weak.tok _ _ _ | exact Weak.of_eq (congrArg (AV.int _) (by omega)) | exact Weak.of_eq (congrArg AV.bool (by fail)) | exact Weak.nils _ _ (.inr rfl), ?_⟩), .refl _, XAt.appQ (m := msg0 seq) hx q1 q2 q3 q4⟩
  · have ht : ¬ t.toNat = 98 := by simp at hc; omega
    have hqd : queued t seq x = x := by rw [queued, if_neg ht]
    rw [hqd]
    (conv => whnf)
    skip
    exact ⟨(_, _), by repeat (first | exact trivial | refine ⟨by first | trivial | exact Weak.refl _ | exact Weak.tok _ _ _ | exact Weak.of_eq (congrArg (AV.int _) (by omega)) | exact Weak.of_eq (congrArg AV.bool (by fail)) | exact Weak.nils _ _ (.inr rfl), ?_⟩), .refl _, hx⟩
  · rintro ⟨qv', rq'⟩ s hq
    have hn' : (queued t seq x).queue.length ≤ 100001 := by unfold queued; split <;> first | (simp; omega) | omega
    generalize queued t seq x = y at hq hn'
    cases hq.q with
    | nil h0 =>
      (conv => whnf); refine SLoad.on 0 rfl ?_; (conv => whnf); refine SCall.p (by exact indexNil_any w0 seq) ?_; (conv => whnf); refine SIf.y Ty.mixed (by exact rfl) ?_; (conv => whnf); refine SBox.b rfl ?_; (conv => whnf); intro b1 hb1; (conv => whnf)
      have h0' : y.queue = [] := by simpa using h0
      exact .w ⟨b1, 0, .nils, none, rfl, hq.other (le_none hq.le hb1) (fun e => (by subst e; rw [hq.hbx] at hb1; cases hb1)) (hq.ra_ne hb1) (by simp) _, .lone b1 (by rw [h0']; simp) setBox_same (le_none hq.le hb1) (fun e => (by subst e; rw [hq.hbx] at hb1; cases hb1)) (hq.ra_ne hb1) (by simp)⟩
    | own b cap junk hb hcp hl =>
      rw [List.length_map] at hq ⊢
      cases hf : y.queue.findIdx? (fun m => decide (m.seq = seq)) with
      | none =>
        have he : idx2 seq y.queue = -1 := by rw [idx2, hf]
        have hd : decide (idx2 seq y.queue < 0) = true := by rw [he]; rfl
        rw [List.findIdx?_eq_none_iff] at hf
        (conv => whnf); refine SLoad.on 0 rfl ?_; (conv => whnf); refine SCall.q (index_any w0 seq y.queue b cap junk _ hb (by omega)) (.inr rfl) ?_; (conv => whnf); refine SIf.y Ty.mixed (by assumption) ?_; (conv => whnf); refine SBox.b rfl ?_; (conv => whnf); intro b1 hb1; (conv => whnf)
        exact .w ⟨b1, 0, _, some b, rfl, hq.other (le_none hq.le hb1) (fun e => (by subst e; rw [hq.hbx] at hb1; cases hb1)) (hq.ra_ne hb1) (hq.rq_ne hb1) _, .lone b1 (fun m hm => by simpa using hf m hm) setBox_same (le_none hq.le hb1) (fun e => (by subst e; rw [hq.hbx] at hb1; cases hb1)) (hq.ra_ne hb1) (hq.rq_ne hb1)⟩
      | some i =>
        have he : idx2 seq y.queue = i := by rw [idx2, hf]
        have hd : decide (idx2 seq y.queue < 0) = false := by rw [he]; exact decide_eq_false (by omega)
        rw [List.findIdx?_eq_some_iff_getElem] at hf
        obtain ⟨hlt, hm, hj⟩ := hf
        have ho : 0 + (idx2 seq y.queue).toNat * 8 = (fm (y.queue.take i)).length := by rw [he, fm_len, List.length_take]; simp; omega
        (conv => whnf); refine SLoad.on 0 rfl ?_; (conv => whnf); refine SCall.q (index_any w0 seq y.queue b cap junk _ hb (by omega)) (.inr rfl) ?_; (conv => whnf); refine SIf.n Ty.mixed (by assumption) ?_; (conv => whnf); refine SLoad.on 0 rfl ?_; (conv => whnf); refine And.intro (by omega) ?_; (conv => whnf)
        exact .w ⟨b, _, _, some b, rfl, hq, .found i _ b _ rfl (List.getElem?_eq_getElem hlt) (by simpa using hm) (fun j m' h1 h2 => by obtain ⟨h3, rfl⟩ := List.getElem?_eq_some_iff.1 h2; simpa using hj j h1) ho⟩
end Go.Proofs.YtkbmkhhcppfcnaaGreatDoor
end
section
set_option linter.unusedVariables false
set_option linter.unusedSimpArgs false
set_option maxRecDepth 100000
set_option maxHeartbeats 1000000
namespace Go.Proofs.YtkbmkhhcppfcnaaGreatDoor
open Go.Al Go.RowKit
theorem updF_none {seq : Int} {f : Msg → Msg} : ∀ {l : List Msg}, (∀ m ∈ l, m.seq ≠ seq) → updF seq f l = l
  | [], _ => rfl
  | m :: l, h => by rw [updF, if_neg (h m (by simp)), updF_none fun m' hm => h m' (by simp [hm])]
theorem updF_set {seq : Int} {f : Msg → Msg} : ∀ {l : List Msg} {i : Nat} {m : Msg}, (∀ j m', j < i → l[j]? = some m' → m'.seq ≠ seq) → l[i]? = some m → m.seq = seq → updF seq f l = l.set i (f m)
  | [], i, m, _, h, _ => by simp at h
  | a :: l, 0, m, _, h, hm => by simp at h; subst h; rw [updF, if_pos hm]; rfl
  | a :: l, i + 1, m, hj, h, hm => by
    rw [updF, if_neg (hj 0 a (by omega) (by simp)), updF_set (l := l) (i := i) (fun j m' h1 h2 => hj (j + 1) m' (by omega) (by simpa using h2)) (by simpa using h) hm]; rfl
theorem fm_set {q : List Msg} {i : Nat} (m : Msg) (h : i < q.length) : fm (q.set i m) = fm (q.take i) ++ mc m ++ fm (q.drop (i + 1)) := by
  have ga : (q.set i m)[i]? = some m := by simp [h]
  have := fm_split ga
  rw [this]
  congr 1
  · congr 1; rw [List.take_set_of_le (Nat.le_refl i)]
  · rw [List.drop_set_of_lt (Nat.lt_succ_self i)]
theorem msg_at (w0 : Base) {f : FuncId} {g : List UInt8 → Msg → Msg} (hf : MsgW w0 f g) {τ σ : St} {bx br bm o : Nat} {x : Sub} {ac qv : AV} {ra rq : Option Nat} {seq : Int} {v : List UInt8} (hv : v.length ≤ 1000000) (hx : XAt τ σ bx x ac qv ra rq) (hp : PlaceAt τ σ bx x ra rq seq bm o) (hr : σ.box br = some (rd2 v (0, false))) (hrn : τ.box br = none) (hb : br ≠ bx) (h1 : ra ≠ some br) (h2 : rq ≠ some br) (h3 : br ≠ bm) :
    CallW Tryz.prog w0 f [.ptr bx 0, .ptr bm o, .ptr br 0] σ (fun r s => r = .tup [] ∧ XAt τ s bx { x with queue := updF seq (g v) x.queue } ac qv ra rq) := by
  cases hp with
  | found i m b o hrq hi hm hj ho =>
    subst ho
    cases hq : hx.q with
    | nil h0 => cases hrq
    | own b0 cap junk hbb hc hl =>
      cases hrq
      have hlt : i < x.queue.length := by obtain ⟨h, _⟩ := List.getElem?_eq_some_iff.1 hi; exact h
      have hs := fm_split hi
      have hbb' : σ.box bm = some (fm (x.queue.take i) ++ mc m ++ (fm (x.queue.drop (i + 1)) ++ junk)) := by
        rw [← List.append_assoc, ← hs]; exact hbb
      refine (hf v m bx bm br (fm (x.queue.take i)) _ σ hv hbb' hr (Ne.symm h3)).mono ?_; rintro r s ⟨rfl, s', rfl⟩; refine ⟨rfl, ?_⟩
      have hu := updF_set (f := g v) hj hi hm
      have hx1 := hx.other hrn hb h1 h2 (rd2 v s')
      refine ⟨le_setBox hx1.le (hx.qn _ rfl).1, by rw [setBox_ne (Ne.symm (hx.qn _ rfl).2)]; exact hx1.hbx, hx.bxn, hx1.a.set (fun e => hx.aq _ e rfl), ?_, hx.an, hx.qn, hx.aq⟩
      have e1 : ({ x with queue := updF seq (g v) x.queue } : Sub).queue = x.queue.set i (g v m) := hu
      rw [e1]
      have hw := RowV.own (σ := (σ.setBox br (rd2 v s')).setBox bm (fm (x.queue.take i) ++ mc (g v m) ++ (fm (x.queue.drop (i + 1)) ++ junk))) (sz := 8) (xs := (x.queue.set i (g v m)).map eMsg) bm cap junk (by rw [setBox_same, ← List.append_assoc, ← fm_set _ hlt]; rfl) (by simpa using hc) (by
        have e2 : ((x.queue.set i (g v m)).map eMsg).flatMap AV.cells = fm (x.queue.set i (g v m)) := rfl
        have e3 : (x.queue.map eMsg).flatMap AV.cells = fm x.queue := rfl
        rw [e3, List.length_append, fm_len] at hl
        rw [e2, List.length_append, fm_len, List.length_set]; exact hl)
      simpa using hw
  | lone bm hj hbm hn k1 k2 k3 =>
    refine (hf v (msg0 0) bx bm br [] [] σ hv (by simpa using hbm) hr (Ne.symm h3)).mono ?_; rintro r s ⟨rfl, s', rfl⟩; refine ⟨rfl, ?_⟩
    rw [updF_none hj]
    exact (hx.other hrn hb h1 h2 (rd2 v s')).other hn k1 k2 k3 _
def tell (t : UInt8) (seq : Int) (v : List UInt8) (x : Sub) : Sub :=
  if t = 97 then { x with acks := (gp2 v (n2 v (0, false)).1 (n2 v (0, false)).2 x.acks).1 }
  else if t = 98 then { x with queue := updF seq (mB v) (x.queue ++ [msg0 seq]) }
  else if t = 110 then { x with note := (t2 v (0, false) 30).1 }
  else if t = 113 then { x with queue := updF seq (mQ v) x.queue }
  else if t = 115 then sS v x
  else if t = 120 then { x with queue := updF seq (mX v) x.queue }
  else x
theorem add2_tell (x : Sub) (r : Row) : add2 x r = tell (parts r.key).t (parts r.key).seq r.val { x with id := (parts r.key).id } := rfl
def ReadT (w0 : Base) (f : FuncId) (tag : UInt8) : Prop := ∀ (τ σ : St) (bx br bm o : Nat) (x : Sub) (ac qv : AV) (ra rq : Option Nat) (seq : Int) (v : List UInt8), v.length ≤ 1000000 → x.acks.length ≤ 1000000 → XAt τ σ bx (queued tag seq x) ac qv ra rq → PlaceAt τ σ bx (queued tag seq x) ra rq seq bm o → σ.box br = some (rd2 v (0, false)) → τ.box br = none → br ≠ bx → ra ≠ some br → rq ≠ some br → br ≠ bm →
  CallW Tryz.prog w0 f [.ptr bx 0, .ptr bm o, .ptr br 0] σ (fun r s => r = .tup [] ∧ ∃ ac' ra', XAt τ s bx (tell tag seq v x) ac' qv ra' rq)
theorem rT_a (w0 : Base) : ReadT w0 81 97 := fun τ σ bx br bm o x ac qv ra rq seq v hv hn hx hp hr hrn h1 h2 h3 h4 => tA_any w0 v x ac qv ra rq τ bx br bm o σ hv hn hx hr hrn h1 h2 h3
theorem rT_b (w0 : Base) : ReadT w0 83 98 := fun τ σ bx br bm o x ac qv ra rq seq v hv hn hx hp hr hrn h1 h2 h3 h4 => (msg_at w0 (tB_any w0) hv hx hp hr hrn h1 h2 h3 h4).mono fun r s ⟨e, h⟩ => ⟨e, _, _, h⟩
theorem rT_n (w0 : Base) : ReadT w0 85 110 := fun τ σ bx br bm o x ac qv ra rq seq v hv hn hx hp hr hrn h1 h2 h3 h4 => (tN_any w0 v x ac qv bx br bm o σ hv hx.hbx hr (Ne.symm h1)).mono fun r s ⟨e, s', h⟩ => ⟨e, _, _, by subst h; exact (hx.other hrn h1 h2 h3 _).own _ rfl rfl⟩
theorem rT_q (w0 : Base) : ReadT w0 86 113 := fun τ σ bx br bm o x ac qv ra rq seq v hv hn hx hp hr hrn h1 h2 h3 h4 => (msg_at w0 (tQ_any w0) hv hx hp hr hrn h1 h2 h3 h4).mono fun r s ⟨e, h⟩ => ⟨e, _, _, h⟩
theorem rT_s (w0 : Base) : ReadT w0 87 115 := fun τ σ bx br bm o x ac qv ra rq seq v hv hn hx hp hr hrn h1 h2 h3 h4 => (tS_any w0 v x ac qv bx br bm o σ hv hx.hbx hr (Ne.symm h1)).mono fun r s ⟨e, s', h⟩ => ⟨e, _, _, by subst h; exact (hx.other hrn h1 h2 h3 _).own (sS v x) rfl rfl⟩
theorem rT_x (w0 : Base) : ReadT w0 88 120 := fun τ σ bx br bm o x ac qv ra rq seq v hv hn hx hp hr hrn h1 h2 h3 h4 => (msg_at w0 (tX_any w0) hv hx hp hr hrn h1 h2 h3 h4).mono fun r s ⟨e, h⟩ => ⟨e, _, _, h⟩
end Go.Proofs.YtkbmkhhcppfcnaaGreatDoor
end
section
set_option linter.unusedVariables false
set_option linter.unusedSimpArgs false
set_option maxRecDepth 100000
set_option maxHeartbeats 2000000
namespace Go.Proofs.YtkbmkhhcppfcnaaGreatDoor
open Go.Al Go.RowKit
def ePts (p : Pts) : AV := .tup [.int .i64 p.v, .int .u8 p.t.toNat, .int .i64 p.id, .int .i64 p.seq, .bool p.ok]
theorem getD_get {k : List UInt8} {i : Nat} (h : i < k.length) : k[i]? = some (k.getD i 0) := by simp [List.getD, h]
theorem a_nilEn {E : AEnv} {x y : Operand} {yt : TypeId} {b : Bool} (hx : aeval E x = eErr b) (hy : y = .const .nilIface) : Al.Yields Tryz.prog E (.binOp .neq 91 x y yt) (.bool (!b)) := by
  subst hy
  cases b
  · exact a_nilI hx rfl (.inr ⟨_, _, rfl⟩) rfl rfl rfl
  · exact a_nilI hx rfl (.inl rfl) rfl rfl rfl
theorem partsS_any (w0 : Base) (hL : Laid w0) (k : List UInt8) (hk : k.length ≤ 1000000) : CallP Tryz.prog w0 43 [.str k] (ePts (parts k)) := by
  refine CallP.start Tryz.func43 rfl Tryz.ntmps43 (by simp) fun σ Q hQ => ?_
  by_cases h0 : ¬ k.length = 22
  · have d0 : (!decide (((k.length : Nat) : Int) = 22)) = true := by simp; omega
    rw [parts, if_neg (fun h => h0 h.1)] at hQ
    refine W.seq ?_; refine W.regionL (by decide +kernel) rfl ?_; apply r_op; exact rfl; exact rfl; apply a_assign; (conv => (lhs; whnf)); apply r_op; exact rfl; exact rfl; apply a_assign; (conv => (lhs; whnf)); apply r_op; exact rfl; exact rfl; apply a_assign; (conv => (lhs; whnf)); apply r_op; exact rfl; exact rfl; apply a_assign; (conv => (lhs; whnf)); apply r_op; exact rfl; exact rfl
    apply a_assign; (conv => (lhs; whnf)); (with_reducible refine runs_done ?_); refine W.seq ?_; refine W.seq ?_; refine W.regionL (by decide +kernel) rfl ?_; apply r_op; exact rfl; exact rfl; apply a_move; (conv => (lhs; whnf)); apply r_op; exact rfl; exact rfl; apply g_call; exact a_len_str rfl; apply r_op; exact rfl; exact rfl; apply g_binOp; exact a_binI rfl rfl rfl; apply r_op; exact rfl
    exact rfl; apply a_move; (conv => (lhs; whnf)); apply q_skip; exact rfl; exact want_f rfl rfl rfl (by assumption); apply q_skip; exact rfl; exact want_f rfl rfl rfl (by assumption); apply q_skip; exact rfl; exact want_f rfl rfl rfl (by assumption); apply r_op; exact rfl; exact rfl; apply g_pick; apply a_pickT rfl (by assumption); (conv => (lhs; whnf)); apply r_op; exact rfl; exact rfl
    apply a_move; (conv => (lhs; whnf)); apply q_skip; exact rfl; exact want_f rfl rfl rfl (by exact rfl); apply q_skip; exact rfl; exact want_f rfl rfl rfl (by exact rfl); apply q_skip; exact rfl; exact want_f rfl rfl rfl (by exact rfl); apply r_op; exact rfl; exact rfl; apply g_pick; apply a_pickT rfl (by exact rfl); (conv => (lhs; whnf)); apply r_op; exact rfl; exact rfl; apply a_move
    (conv => (lhs; whnf)); apply q_skip; exact rfl; exact want_f rfl rfl rfl (by exact rfl); apply q_skip; exact rfl; exact want_f rfl rfl rfl (by exact rfl); apply q_skip; exact rfl; exact want_f rfl rfl rfl (by exact rfl); apply r_op; exact rfl; exact rfl; apply g_pick; apply a_pickT rfl (by exact rfl); (conv => (lhs; whnf)); apply r_op; exact rfl; exact rfl; apply a_move; (conv => (lhs; whnf))
    apply q_skip; exact rfl; exact want_f rfl rfl rfl (by exact rfl); apply q_skip; exact rfl; exact want_f rfl rfl rfl (by exact rfl); apply q_skip; exact rfl; exact want_f rfl rfl rfl (by exact rfl); apply r_op; exact rfl; exact rfl; apply g_pick; apply a_pickT rfl (by exact rfl); (conv => (lhs; whnf)); (with_reducible refine runs_done ?_); refine W.condT rfl (by exact rfl) ?_; refine W.seq ?_
    refine W.regionL (by decide +kernel) rfl ?_; apply r_op; exact rfl; exact rfl; apply a_assign; (conv => (lhs; whnf)); apply r_op; exact rfl; exact rfl; apply a_assign; (conv => (lhs; whnf)); apply r_op; exact rfl; exact rfl; apply a_assign; (conv => (lhs; whnf)); apply r_op; exact rfl; exact rfl; apply a_assign; (conv => (lhs; whnf)); apply r_op; exact rfl; exact rfl; apply a_assign
    (conv => (lhs; whnf)); (with_reducible refine runs_done ?_); refine W.ret ?_; show Q Exit.ret _ _; refine post_q hQ (by apply res_tmp; exact rfl; apply res_tmp; exact rfl; apply res_tmp; exact rfl; apply res_tmp; exact rfl; apply res_tmp; exact rfl; exact res_nil) (.inl rfl) (by exact .refl _) ?_; (conv => (lhs; whnf)); rfl
  have h0 := Decidable.of_not_not h0
  have d0 : (!decide (((k.length : Nat) : Int) = 22)) = false := by simp [h0]
  have g0 : k[(0 : Int).toNat]? = some (k.getD 0 0) := getD_get (by omega)
  have g1 : k[(1 : Int).toNat]? = some (k.getD 1 0) := getD_get (by omega)
  have hA1 := goAtoi_any w0 hL ((k.take (12 : Int).toNat).drop (2 : Int).toNat) (by simp; omega)
  have hA2 := goAtoi_any w0 hL ((k.take ((k.length : Nat) : Int).toNat).drop (12 : Int).toNat) (by simp; omega)
  have e1 : (k.take 12).drop 2 = (k.take (12 : Int).toNat).drop (2 : Int).toNat := rfl
  have e2 : k.drop 12 = (k.take ((k.length : Nat) : Int).toNat).drop (12 : Int).toNat := by rw [Int.toNat_natCast, List.take_length]; rfl
  have hp : parts k = if k.length = 22 ∧ (48 ≤ (k.getD 0 0).toNat ∧ (k.getD 0 0).toNat ≤ 57) ∧ (97 ≤ (k.getD 1 0).toNat ∧ (k.getD 1 0).toNat ≤ 122) then _ else _ := rfl
  rw [e1, e2] at hp
  generalize k.getD 0 0 = c0 at g0 hp
  generalize k.getD 1 0 = t at g1 hp
  generalize goAtoi ((k.take (12 : Int).toNat).drop (2 : Int).toNat) = A1 at hA1 hp
  generalize goAtoi ((k.take ((k.length : Nat) : Int).toNat).drop (12 : Int).toNat) = A2 at hA2 hp
  obtain ⟨a, ba⟩ := A1
  obtain ⟨b, bb⟩ := A2
  dsimp only at hA1 hA2 hp
  have hK : 48 ≤ c0.toNat ∧ c0.toNat ≤ 57 → CallP Tryz.prog w0 20 [.int .i64 (IntKind.i64.wrap (((Al.byteOf ((c0.toNat : Int) - 48)).toNat : Nat) : Int)), .int .u8 t.toNat, .int .i64 a, .int .i64 b] (.str (rkey (c0.toNat - 48) t a b)) := fun h => by
    rw [sub48 h]
    exact keyS_any w0 hL _ (by omega) _ a b
  clear e1 e2; refine W.seq ?_; refine W.regionL (by decide +kernel) rfl ?_; apply r_op; exact rfl; exact rfl; apply a_assign; (conv => (lhs; whnf)); apply r_op; exact rfl; exact rfl; apply a_assign; (conv => (lhs; whnf)); apply r_op; exact rfl; exact rfl; apply a_assign; (conv => (lhs; whnf)); apply r_op; exact rfl; exact rfl; apply a_assign; (conv => (lhs; whnf)); apply r_op; exact rfl; exact rfl
  apply a_assign; (conv => (lhs; whnf)); (with_reducible refine runs_done ?_); refine W.seq ?_; refine W.seq ?_; refine W.regionL (by decide +kernel) rfl ?_; apply r_op; exact rfl; exact rfl; apply a_move; (conv => (lhs; whnf)); apply r_op; exact rfl; exact rfl; apply g_call; exact a_len_str rfl; apply r_op; exact rfl; exact rfl; apply g_binOp; exact a_binI rfl rfl rfl; apply r_op; exact rfl
  exact rfl; apply a_move; (conv => (lhs; whnf)); apply r_op; exact rfl; exact want_t rfl rfl rfl (by assumption); apply a_move; (conv => (lhs; whnf)); apply r_op; exact rfl; exact want_t rfl rfl rfl (by assumption); apply g_index; exact a_indexS rfl rfl (by omega) (by assumption); apply r_op; exact rfl; exact want_t rfl rfl rfl (by assumption); apply g_binOp; exact a_binI rfl rfl rfl; apply r_op
  exact rfl; exact rfl; apply g_pick; apply a_pickF rfl (by assumption); (conv => (lhs; whnf)); apply r_op; exact rfl; exact rfl; apply a_move; (conv => (lhs; whnf)); refine q_split rfl rfl rfl (fun hg => ?_) (fun hg => ?_); apply q_skip; exact rfl; exact want_f rfl rfl rfl (by assumption); apply q_skip; exact rfl; exact want_f rfl rfl rfl (by assumption); apply q_skip; exact rfl
  exact want_f rfl rfl rfl (by assumption); apply r_op; exact rfl; exact rfl; apply g_pick; apply a_pickT rfl (by assumption); (conv => (lhs; whnf)); apply r_op; exact rfl; exact rfl; apply a_move; (conv => (lhs; whnf)); apply q_skip; exact rfl; exact want_f rfl rfl rfl (by exact rfl); apply q_skip; exact rfl; exact want_f rfl rfl rfl (by exact rfl); apply q_skip; exact rfl
  exact want_f rfl rfl rfl (by exact rfl); apply r_op; exact rfl; exact rfl; apply g_pick; apply a_pickT rfl (by exact rfl); (conv => (lhs; whnf)); apply r_op; exact rfl; exact rfl; apply a_move; (conv => (lhs; whnf)); apply q_skip; exact rfl; exact want_f rfl rfl rfl (by exact rfl); apply q_skip; exact rfl; exact want_f rfl rfl rfl (by exact rfl); apply q_skip; exact rfl
  exact want_f rfl rfl rfl (by exact rfl); apply r_op; exact rfl; exact rfl; apply g_pick; apply a_pickT rfl (by exact rfl); (conv => (lhs; whnf)); (with_reducible refine runs_done ?_); refine W.condT rfl (by exact rfl) ?_; refine W.seq ?_; refine W.regionL (by decide +kernel) rfl ?_; apply r_op; exact rfl; exact rfl; apply a_assign; (conv => (lhs; whnf)); apply r_op; exact rfl; exact rfl
  apply a_assign; (conv => (lhs; whnf)); apply r_op; exact rfl; exact rfl; apply a_assign; (conv => (lhs; whnf)); apply r_op; exact rfl; exact rfl; apply a_assign; (conv => (lhs; whnf)); apply r_op; exact rfl; exact rfl; apply a_assign; (conv => (lhs; whnf)); (with_reducible refine runs_done ?_); refine W.ret ?_; show Q Exit.ret _ _
  refine post_q hQ (by apply res_tmp; exact rfl; apply res_tmp; exact rfl; apply res_tmp; exact rfl; apply res_tmp; exact rfl; apply res_tmp; exact rfl; exact res_nil) (.inl rfl) (by exact .refl _) ?_; (conv => (lhs; whnf)); rotate_left; apply r_op; exact rfl; exact want_t rfl rfl rfl (by assumption); apply a_move; (conv => (lhs; whnf)); apply r_op; exact rfl
  exact want_t rfl rfl rfl (by assumption); apply g_index; exact a_indexS rfl rfl (by omega) (by assumption); apply r_op; exact rfl; exact want_t rfl rfl rfl (by assumption); apply g_binOp; exact a_binI rfl rfl rfl; apply r_op; exact rfl; exact rfl; apply g_pick; apply a_pickF rfl (by assumption); (conv => (lhs; whnf)); apply r_op; exact rfl; exact rfl; apply a_move; (conv => (lhs; whnf))
  refine q_split rfl rfl rfl (fun hg => ?_) (fun hg => ?_); apply q_skip; exact rfl; exact want_f rfl rfl rfl (by assumption); apply q_skip; exact rfl; exact want_f rfl rfl rfl (by assumption); apply q_skip; exact rfl; exact want_f rfl rfl rfl (by assumption); apply r_op; exact rfl; exact rfl; apply g_pick; apply a_pickT rfl (by assumption); (conv => (lhs; whnf)); apply r_op; exact rfl; exact rfl
  apply a_move; (conv => (lhs; whnf)); apply q_skip; exact rfl; exact want_f rfl rfl rfl (by exact rfl); apply q_skip; exact rfl; exact want_f rfl rfl rfl (by exact rfl); apply q_skip; exact rfl; exact want_f rfl rfl rfl (by exact rfl); apply r_op; exact rfl; exact rfl; apply g_pick; apply a_pickT rfl (by exact rfl); (conv => (lhs; whnf)); (with_reducible refine runs_done ?_)
  refine W.condT rfl (by exact rfl) ?_; refine W.seq ?_; refine W.regionL (by decide +kernel) rfl ?_; apply r_op; exact rfl; exact rfl; apply a_assign; (conv => (lhs; whnf)); apply r_op; exact rfl; exact rfl; apply a_assign; (conv => (lhs; whnf)); apply r_op; exact rfl; exact rfl; apply a_assign; (conv => (lhs; whnf)); apply r_op; exact rfl; exact rfl; apply a_assign; (conv => (lhs; whnf))
  apply r_op; exact rfl; exact rfl; apply a_assign; (conv => (lhs; whnf)); (with_reducible refine runs_done ?_); refine W.ret ?_; show Q Exit.ret _ _; refine post_q hQ (by apply res_tmp; exact rfl; apply res_tmp; exact rfl; apply res_tmp; exact rfl; apply res_tmp; exact rfl; apply res_tmp; exact rfl; exact res_nil) (.inl rfl) (by exact .refl _) ?_; (conv => (lhs; whnf)); rotate_left; apply r_op
  exact rfl; exact want_t rfl rfl rfl (by assumption); apply a_move; (conv => (lhs; whnf)); apply r_op; exact rfl; exact want_t rfl rfl rfl (by assumption); apply g_index; exact a_indexS rfl rfl (by omega) (by assumption); apply r_op; exact rfl; exact want_t rfl rfl rfl (by assumption); apply g_binOp; exact a_binI rfl rfl rfl; apply r_op; exact rfl; exact rfl; apply g_pick
  apply a_pickF rfl (by assumption); (conv => (lhs; whnf)); apply r_op; exact rfl; exact rfl; apply a_move; (conv => (lhs; whnf)); refine q_split rfl rfl rfl (fun hg => ?_) (fun hg => ?_); apply q_skip; exact rfl; exact want_f rfl rfl rfl (by assumption); apply q_skip; exact rfl; exact want_f rfl rfl rfl (by assumption); apply q_skip; exact rfl; exact want_f rfl rfl rfl (by assumption); apply r_op
  exact rfl; exact rfl; apply g_pick; apply a_pickT rfl (by assumption); (conv => (lhs; whnf)); (with_reducible refine runs_done ?_); refine W.condT rfl (by exact rfl) ?_; refine W.seq ?_; refine W.regionL (by decide +kernel) rfl ?_; apply r_op; exact rfl; exact rfl; apply a_assign; (conv => (lhs; whnf)); apply r_op; exact rfl; exact rfl; apply a_assign; (conv => (lhs; whnf)); apply r_op; exact rfl
  exact rfl; apply a_assign; (conv => (lhs; whnf)); apply r_op; exact rfl; exact rfl; apply a_assign; (conv => (lhs; whnf)); apply r_op; exact rfl; exact rfl; apply a_assign; (conv => (lhs; whnf)); (with_reducible refine runs_done ?_); refine W.ret ?_; show Q Exit.ret _ _
  refine post_q hQ (by apply res_tmp; exact rfl; apply res_tmp; exact rfl; apply res_tmp; exact rfl; apply res_tmp; exact rfl; apply res_tmp; exact rfl; exact res_nil) (.inl rfl) (by exact .refl _) ?_; (conv => (lhs; whnf)); rotate_left; apply r_op; exact rfl; exact want_t rfl rfl rfl (by assumption); apply a_move; (conv => (lhs; whnf)); apply r_op; exact rfl
  exact want_t rfl rfl rfl (by assumption); apply g_index; exact a_indexS rfl rfl (by omega) (by assumption); apply r_op; exact rfl; exact want_t rfl rfl rfl (by assumption); apply g_binOp; exact a_binI rfl rfl rfl; apply r_op; exact rfl; exact rfl; apply g_pick; apply a_pickF rfl (by assumption); (conv => (lhs; whnf)); (with_reducible refine runs_done ?_)
  refine W.cond rfl (fun hc => ?_) (fun hc => ?_); refine W.seq ?_; refine W.regionL (by decide +kernel) rfl ?_; apply r_op; exact rfl; exact rfl; apply a_assign; (conv => (lhs; whnf)); apply r_op; exact rfl; exact rfl; apply a_assign; (conv => (lhs; whnf)); apply r_op; exact rfl; exact rfl; apply a_assign; (conv => (lhs; whnf)); apply r_op; exact rfl; exact rfl; apply a_assign
  (conv => (lhs; whnf)); apply r_op; exact rfl; exact rfl; apply a_assign; (conv => (lhs; whnf)); (with_reducible refine runs_done ?_); refine W.ret ?_; show Q Exit.ret _ _; refine post_q hQ (by apply res_tmp; exact rfl; apply res_tmp; exact rfl; apply res_tmp; exact rfl; apply res_tmp; exact rfl; apply res_tmp; exact rfl; exact res_nil) (.inl rfl) (by exact .refl _) ?_; (conv => (lhs; whnf))
  rotate_left; refine W.skip ?_; show W _ _ _ _ _ _ _; refine W.seq ?_; refine W.regionL (by decide +kernel) rfl ?_; apply r_op; exact rfl; exact rfl; apply a_move; (conv => (lhs; whnf)); apply r_op; exact rfl; exact rfl; apply g_index; exact a_indexS rfl rfl (by omega) (by assumption); apply r_op; exact rfl; exact rfl; apply g_binOp; exact a_u8sub rfl rfl; apply r_op; exact rfl; exact rfl
  apply g_convert; exact a_convI rfl; apply r_op; exact rfl; exact rfl; apply a_assign; (conv => (lhs; whnf)); (with_reducible refine runs_done ?_); refine W.seq ?_; refine W.regionL (by decide +kernel) rfl ?_; apply r_op; exact rfl; exact rfl; apply a_move; (conv => (lhs; whnf)); apply r_op; exact rfl; exact rfl; apply g_slice; exact a_sliceS rfl rfl rfl (by omega); apply r_callP; exact rfl
  exact rfl; exact rfl; exact rfl; exact rfl; infer_instance; exact hA1; apply r_op; exact rfl; exact rfl; apply a_move; (conv => (lhs; whnf)); apply r_op; exact rfl; exact rfl; apply g_extract; exact a_extract rfl rfl; apply r_op; exact rfl; exact rfl; apply g_extract; exact a_extract rfl rfl; apply r_op; exact rfl; exact rfl; apply a_assign; (conv => (lhs; whnf)); apply r_op; exact rfl; exact rfl
  apply a_assign; (conv => (lhs; whnf)); (with_reducible refine runs_done ?_); refine W.seq ?_; refine W.regionL (by decide +kernel) rfl ?_; apply r_op; exact rfl; exact rfl; apply a_move; (conv => (lhs; whnf)); apply r_op; exact rfl; exact rfl; apply g_slice; exact a_sliceS rfl rfl rfl (by omega); apply r_callP; exact rfl; exact rfl; exact rfl; exact rfl; exact rfl; infer_instance; exact hA2
  apply r_op; exact rfl; exact rfl; apply a_move; (conv => (lhs; whnf)); apply r_op; exact rfl; exact rfl; apply g_extract; exact a_extract rfl rfl; apply r_op; exact rfl; exact rfl; apply g_extract; exact a_extract rfl rfl; apply r_op; exact rfl; exact rfl; apply a_assign; (conv => (lhs; whnf)); apply r_op; exact rfl; exact rfl; apply a_assign; (conv => (lhs; whnf))
  (with_reducible refine runs_done ?_); refine W.seq ?_; refine W.seq ?_; refine W.regionL (by decide +kernel) rfl ?_; apply r_op; exact rfl; exact rfl; apply a_move; (conv => (lhs; whnf)); apply r_op; exact rfl; exact rfl; apply g_binOp; exact a_nilEn rfl rfl; apply r_op; exact rfl; exact rfl; apply a_move; (conv => (lhs; whnf)); refine q_split rfl rfl rfl (fun hg => ?_) (fun hg => ?_); apply q_skip
  exact rfl; exact want_f rfl rfl rfl (by assumption); apply q_skip; exact rfl; exact want_f rfl rfl rfl (by assumption); apply r_op; exact rfl; exact rfl; apply g_pick; apply a_pickT rfl (by assumption); (conv => (lhs; whnf)); apply r_op; exact rfl; exact rfl; apply a_move; (conv => (lhs; whnf)); apply q_skip; exact rfl; exact want_f rfl rfl rfl (by exact rfl); apply q_skip; exact rfl
  exact want_f rfl rfl rfl (by exact rfl); apply q_skip; exact rfl; exact want_f rfl rfl rfl (by exact rfl); apply q_skip; exact rfl; exact want_f rfl rfl rfl (by exact rfl); apply q_skip; exact rfl; exact want_f rfl rfl rfl (by exact rfl); apply q_skip; exact rfl; exact want_f rfl rfl rfl (by exact rfl); apply q_skip; exact rfl; exact want_f rfl rfl rfl (by exact rfl); apply q_skip; exact rfl
  exact want_f rfl rfl rfl (by exact rfl); apply r_op; exact rfl; exact rfl; apply g_pick; apply a_pickT rfl (by exact rfl); (conv => (lhs; whnf)); (with_reducible refine runs_done ?_); refine W.condT rfl (by exact rfl) ?_; refine W.seq ?_; refine W.regionL (by decide +kernel) rfl ?_; apply r_op; exact rfl; exact rfl; apply a_assign; (conv => (lhs; whnf)); apply r_op; exact rfl; exact rfl
  apply a_assign; (conv => (lhs; whnf)); apply r_op; exact rfl; exact rfl; apply a_assign; (conv => (lhs; whnf)); apply r_op; exact rfl; exact rfl; apply a_assign; (conv => (lhs; whnf)); apply r_op; exact rfl; exact rfl; apply a_assign; (conv => (lhs; whnf)); (with_reducible refine runs_done ?_); refine W.ret ?_; show Q Exit.ret _ _
  refine post_q hQ (by apply res_tmp; exact rfl; apply res_tmp; exact rfl; apply res_tmp; exact rfl; apply res_tmp; exact rfl; apply res_tmp; exact rfl; exact res_nil) (.inl rfl) (by exact .refl _) ?_; (conv => (lhs; whnf)); rotate_left; apply r_op; exact rfl; exact want_t rfl rfl rfl (by assumption); apply a_move; (conv => (lhs; whnf)); apply r_op; exact rfl
  exact want_t rfl rfl rfl (by assumption); apply g_binOp; exact a_nilEn rfl rfl; apply r_op; exact rfl; exact rfl; apply g_pick; apply a_pickF rfl (by assumption); (conv => (lhs; whnf)); apply r_op; exact rfl; exact rfl; apply a_move; (conv => (lhs; whnf)); refine q_split rfl rfl rfl (fun hg => ?_) (fun hg => ?_); apply q_skip; exact rfl; exact want_f rfl rfl rfl (by assumption); apply q_skip
  exact rfl; exact want_f rfl rfl rfl (by assumption); apply q_skip; exact rfl; exact want_f rfl rfl rfl (by assumption); apply q_skip; exact rfl; exact want_f rfl rfl rfl (by assumption); apply q_skip; exact rfl; exact want_f rfl rfl rfl (by assumption); apply q_skip; exact rfl; exact want_f rfl rfl rfl (by assumption); apply q_skip; exact rfl; exact want_f rfl rfl rfl (by assumption)
  apply q_skip; exact rfl; exact want_f rfl rfl rfl (by assumption); apply r_op; exact rfl; exact rfl; apply g_pick; apply a_pickT rfl (by assumption); (conv => (lhs; whnf)); (with_reducible refine runs_done ?_); refine W.condT rfl (by exact rfl) ?_; refine W.seq ?_; refine W.regionL (by decide +kernel) rfl ?_; apply r_op; exact rfl; exact rfl; apply a_assign; (conv => (lhs; whnf)); apply r_op
  exact rfl; exact rfl; apply a_assign; (conv => (lhs; whnf)); apply r_op; exact rfl; exact rfl; apply a_assign; (conv => (lhs; whnf)); apply r_op; exact rfl; exact rfl; apply a_assign; (conv => (lhs; whnf)); apply r_op; exact rfl; exact rfl; apply a_assign; (conv => (lhs; whnf)); (with_reducible refine runs_done ?_); refine W.ret ?_; show Q Exit.ret _ _
  refine post_q hQ (by apply res_tmp; exact rfl; apply res_tmp; exact rfl; apply res_tmp; exact rfl; apply res_tmp; exact rfl; apply res_tmp; exact rfl; exact res_nil) (.inl rfl) (by exact .refl _) ?_; (conv => (lhs; whnf)); rotate_left; apply r_op; exact rfl; exact want_t rfl rfl rfl (by assumption); apply a_move; (conv => (lhs; whnf)); apply r_op; exact rfl
  exact want_t rfl rfl rfl (by assumption); apply a_move; (conv => (lhs; whnf)); apply r_op; exact rfl; exact want_t rfl rfl rfl (by assumption); apply g_index; exact a_indexS rfl rfl (by omega) (by assumption); apply r_op; exact rfl; exact want_t rfl rfl rfl (by assumption); apply a_move; (conv => (lhs; whnf)); apply r_op; exact rfl; exact want_t rfl rfl rfl (by assumption); apply a_move
  (conv => (lhs; whnf)); apply r_callP; exact rfl; exact rfl; exact want_t rfl rfl rfl (by assumption); exact rfl; exact rfl; infer_instance; exact hK ⟨Int.ofNat_le.1 (Int.not_lt.1 (of_decide_eq_false (by assumption))), Int.ofNat_le.1 (Int.not_lt.1 (of_decide_eq_false (by assumption)))⟩; apply r_op; exact rfl; exact want_t rfl rfl rfl (by assumption); apply a_move; (conv => (lhs; whnf)); apply r_op
  exact rfl; exact want_t rfl rfl rfl (by assumption); apply g_binOp; exact a_binS rfl rfl rfl rfl; apply r_op; exact rfl; exact rfl; apply g_pick; apply a_pickF rfl (by assumption); (conv => (lhs; whnf)); (with_reducible refine runs_done ?_); refine W.cond rfl (fun hc => ?_) (fun hc => ?_); refine W.seq ?_; refine W.regionL (by decide +kernel) rfl ?_; apply r_op; exact rfl; exact rfl; apply a_assign
  (conv => (lhs; whnf)); apply r_op; exact rfl; exact rfl; apply a_assign; (conv => (lhs; whnf)); apply r_op; exact rfl; exact rfl; apply a_assign; (conv => (lhs; whnf)); apply r_op; exact rfl; exact rfl; apply a_assign; (conv => (lhs; whnf)); apply r_op; exact rfl; exact rfl; apply a_assign; (conv => (lhs; whnf)); (with_reducible refine runs_done ?_); refine W.ret ?_; show Q Exit.ret _ _
  refine post_q hQ (by apply res_tmp; exact rfl; apply res_tmp; exact rfl; apply res_tmp; exact rfl; apply res_tmp; exact rfl; apply res_tmp; exact rfl; exact res_nil) (.inl rfl) (by exact .refl _) ?_; (conv => (lhs; whnf)); rotate_left; refine W.skip ?_; show W _ _ _ _ _ _ _; refine W.seq ?_; refine W.regionDK 1 [] Ty.mixed (by decide +kernel) (by decide +kernel) rfl ?_; apply r_op; exact rfl
  exact rfl; apply a_move; (conv => (lhs; whnf)); apply r_op; exact rfl; exact rfl; apply a_move; (conv => (lhs; whnf)); apply r_op; exact rfl; exact rfl; apply g_index; exact a_indexS rfl rfl (by omega) (by assumption); apply r_op; exact rfl; exact rfl; apply a_move; (conv => (lhs; whnf)); apply r_op; exact rfl; exact rfl; apply a_move; (conv => (lhs; whnf)); apply r_op; exact rfl; exact rfl
  apply a_assign; (conv => (lhs; whnf)); apply r_op; exact rfl; exact rfl; apply a_assign; (conv => (lhs; whnf)); apply r_op; exact rfl; exact rfl; apply a_assign; (conv => (lhs; whnf)); apply r_op; exact rfl; exact rfl; apply a_assign; (conv => (lhs; whnf)); apply r_op; exact rfl; exact rfl; apply a_assign; (conv => (lhs; whnf)); (with_reducible refine runs_done ?_); refine W.ret ?_
  show Q Exit.ret _ _; refine post_q hQ (by apply res_tmp; exact rfl; apply res_tmp; exact rfl; apply res_tmp; exact rfl; apply res_tmp; exact rfl; apply res_tmp; exact rfl; exact res_nil) (.inl rfl) (by exact .refl _) ?_; (conv => (lhs; whnf)); rotate_left
  · have hn : parts k = .none := by rw [hp, if_neg (fun h => by have := of_decide_eq_true hg; omega)]
    rw [hn]; rfl
  · have hn : parts k = .none := by rw [hp, if_neg (fun h => by have := of_decide_eq_true hg; omega)]
    rw [hn]; rfl
  · have hn : parts k = .none := by rw [hp, if_neg (fun h => by have := of_decide_eq_true hg; omega)]
    rw [hn]; rfl
  · have hn : parts k = .none := by rw [hp, if_neg (fun h => by have := of_decide_eq_true hc; omega)]
    rw [hn]; rfl
  · have hn : parts k = .none := by
      rw [hp]; split <;> first | rfl | (rw [if_neg]; intro h; rw [h.1] at hg; cases hg)
    rw [hn]; rfl
  · have hn : parts k = .none := by
      rw [hp]; split <;> first | rfl | (rw [if_neg]; intro h; rw [h.2.1] at hg; cases hg)
    rw [hn]; rfl
  · have hn : parts k = .none := by
      rw [hp]; split <;> first | rfl | (rw [if_neg]; intro h; simp [h.2.2] at hc)
    rw [hn]; rfl
  · have h48 : 48 ≤ c0.toNat ∧ c0.toNat ≤ 57 := ⟨Int.ofNat_le.1 (Int.not_lt.1 (of_decide_eq_false (by assumption))), Int.ofNat_le.1 (Int.not_lt.1 (of_decide_eq_false (by assumption)))⟩
    have h97 : 97 ≤ t.toNat ∧ t.toNat ≤ 122 := ⟨Int.ofNat_le.1 (Int.not_lt.1 (of_decide_eq_false (by assumption))), Int.ofNat_le.1 (Int.not_lt.1 (of_decide_eq_false (by assumption)))⟩
    have hba : ba = true := by simpa using ‹(!ba) = false›
    have hbb : bb = true := by simpa using ‹(!bb) = false›
    have hn : parts k = ⟨c0.toNat - 48, t, a, b, true⟩ := by
      rw [hp, if_pos ⟨h0, h48, h97⟩, if_pos ⟨hba, hbb, by simpa using hc⟩]
    rw [hn, ePts, ← sub48 h48]; rfl
end Go.Proofs.YtkbmkhhcppfcnaaGreatDoor
end
