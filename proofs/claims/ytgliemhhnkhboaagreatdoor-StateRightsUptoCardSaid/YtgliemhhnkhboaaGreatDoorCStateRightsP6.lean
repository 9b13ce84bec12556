/- The law StateRights returns true for every input, and its arguments read as before: the tied card. No conditions. This is part 6 of 7 of its proof; the parts are read in order. No conditions. -/
import Derived.Test.YtgliemhhnkhboaaGreatDoorCStateRightsP5
import Derived.ProofKit
section
set_option linter.unusedVariables false
set_option linter.unusedSimpArgs false
set_option maxRecDepth 100000
set_option maxHeartbeats 2000000
namespace Go.Proofs.YtgliemhhnkhboaaGreatDoor
open Go.Al Go.RowKit
theorem refRight_any (w0 : Base) (s : List UInt8) (hs : s.length ≤ 1000000000) : CallP Tryz.prog w0 88 [.str s] (.bool (rightT s)) := by
  have hsp := refSplit_any w0 s 47 hs
  have hpl := pcs_len 47 s
  have hml : ∀ p ∈ pcs 47 s, p.length ≤ 1000000000 := fun p hp => Nat.le_trans (pcs_mem_len 47 s p hp) hs
  rw [rightT]
  generalize pcs 47 s = ps at *
  refine CallP.h Ty.tok Ty.mixed Tryz.func88 rfl Tryz.ntmps88 rfl (by simp) (by decide +kernel) fun σ => ?_
  (conv => whnf); refine Hid.seq ?_; refine Hid.reg ?_; (conv => whnf); refine Hid.seq ?_; refine Hid.reg ?_; (conv => whnf); refine SCall.p (by exact hsp) ?_; (conv => whnf); refine Hid.seq ?_; refine Hid.seq ?_; refine Hid.reg ?_; (conv => whnf); refine Hid.block ?_; refine Hid.loop ?_
  have hln := strs_len ps
  refine SLoop.by Ty.mixed (fun i : Nat => ps.length - i) (fun i => [(0, .str s), (3, .slc 1 (strs ps) .no), (4, .int .i64 i)]) (fun _ => []) (fun i τ => i ≤ ps.length ∧ (ps.drop i).all wordS = ps.all wordS ∧ τ = σ) 0 ⟨by repeat (first | exact trivial | refine ⟨by first | trivial | exact Weak.refl _ | exact Weak.tok _ _ _ | exact Weak.of_eq (congrArg (AV.int _) (by omega)) | exact Weak.of_eq (congrArg AV.bool (by fail)) | exact Weak.nils _ _ (.inr rfl), ?_⟩), .none _, Nat.zero_le _, rfl, rfl⟩ ?_
  rintro i τ ⟨hi, hd, rfl⟩
  by_cases hlt : i < ps.length
  · have ga : (strs ps)[i]? = some (.str ps[i]) := by simp [strs, hlt]
    have hpm := hml _ (List.getElem_mem hlt)
    rw [List.drop_eq_getElem_cons hlt, List.all_cons] at hd
    generalize ps[i] = p at *
    refine Xc_h ?_; (conv => whnf); refine Hid.seq ?_; refine Hid.seq ?_; refine Hid.reg ?_; (conv => whnf); refine Hid.cond rfl ?_
    skip
    refine SIf.y Ty.mixed (decide_eq_true (by rw [hln]; omega)) ?_; refine Xc_h ?_; (conv => whnf); refine Hid.skip ?_; (conv => whnf); refine Hid.seq ?_; refine Hid.seq ?_; refine Hid.reg ?_; (conv => whnf)
    refine ⟨_, ⟨by first | omega | (rw [hln]; omega) | fail, by exact ga⟩, ?_⟩
    (conv => whnf); refine SCall.p (by exact refWord_any w0 p (by omega)) ?_; (conv => whnf); refine Hid.cond rfl ?_
    cases hw : wordS p with
    | false =>
      refine SIf.y Ty.mixed rfl ?_; refine Xc_h ?_; (conv => whnf); refine Hid.seq ?_; refine Hid.reg ?_; (conv => whnf); refine Hid.ret ?_; (conv => whnf)
      skip
      rw [hw, Bool.false_and] at hd
      exact .p (.refl _) (by rw [← hd]; rfl)
    | true =>
      refine SIf.n Ty.mixed rfl ?_; refine Xc_h ?_; (conv => whnf); refine Hid.skip ?_; (conv => whnf); refine Hid.reg ?_; (conv => whnf); refine ⟨_, IntWalk.i64_in _ (by omega), ?_⟩; (conv => whnf)
      rw [hw, Bool.true_and] at hd
      exact ⟨i + 1, by omega, by repeat (first | exact trivial | refine ⟨by first | trivial | exact Weak.refl _ | exact Weak.tok _ _ _ | exact Weak.of_eq (congrArg (AV.int _) (by omega)) | exact Weak.of_eq (congrArg AV.bool (by fail)) | exact Weak.nils _ _ (.inr rfl), ?_⟩), .none _, hlt, hd, rfl⟩
  · have hge : i = ps.length := by omega
    subst hge
    rw [List.drop_length] at hd
    refine Xc_h ?_; (conv => whnf); refine Hid.seq ?_; refine Hid.seq ?_; refine Hid.reg ?_; (conv => whnf); refine Hid.cond rfl ?_
    skip
    refine SIf.n Ty.mixed (decide_eq_false (by rw [hln]; omega)) ?_; refine Xc_h ?_; (conv => whnf); refine Hid.exit ?_; (conv => whnf); refine Hid.seq ?_; refine Hid.reg ?_; (conv => whnf); refine Hid.ret ?_; (conv => whnf)
    skip
    exact .p (.refl _) (by rw [← hd, List.all_nil, Bool.true_and]; exact congrArg AV.bool (decide_eq_decide.2 (by omega)))
theorem refPattern_any (w0 : Base) (s : List UInt8) (hs : s.length ≤ 1000000000) : CallP Tryz.prog w0 66 [.str s] (.bool (patT s)) := by
  have hsp := refSplit_any w0 s 47 hs
  have hpl := pcs_len 47 s
  have hml : ∀ p ∈ pcs 47 s, p.length ≤ 1000000000 := fun p hp => Nat.le_trans (pcs_mem_len 47 s p hp) hs
  rw [← refPat_eq]
  generalize pcs 47 s = ps at *
  refine CallP.h Ty.tok Ty.mixed Tryz.func66 rfl Tryz.ntmps66 rfl (by simp) (by decide +kernel) fun σ => ?_
  (conv => whnf); refine Hid.seq ?_; refine Hid.reg ?_; (conv => whnf); refine Hid.seq ?_; refine Hid.reg ?_; (conv => whnf); refine SCall.p (by exact hsp) ?_; (conv => whnf); refine Hid.seq ?_; refine Hid.seq ?_; refine Hid.reg ?_; (conv => whnf); refine Hid.block ?_; refine Hid.loop ?_
  have hln := strs_len ps
  refine SLoop.by Ty.mixed (fun i : Nat => ps.length - i) (fun i => [(0, .str s), (3, .slc 1 (strs ps) .no), (4, .int .i64 i)]) (fun _ => []) (fun i τ => i ≤ ps.length ∧ refPatL (ps.drop i) = refPatL ps ∧ τ = σ) 0 ⟨by repeat (first | exact trivial | refine ⟨by first | trivial | exact Weak.refl _ | exact Weak.tok _ _ _ | exact Weak.of_eq (congrArg (AV.int _) (by omega)) | exact Weak.of_eq (congrArg AV.bool (by fail)) | exact Weak.nils _ _ (.inr rfl), ?_⟩), .none _, Nat.zero_le _, rfl, rfl⟩ ?_
  rintro i τ ⟨hi, hd, rfl⟩
  by_cases hlt : i < ps.length
  · have ga : (strs ps)[i]? = some (.str ps[i]) := by simp [strs, hlt]
    have hpm := hml _ (List.getElem_mem hlt)
    have hlast : decide (ps.drop (i + 1) = []) = decide ((i : Int) = ((strs ps).length : Int) - 1) := decide_eq_decide.2 (by rw [List.drop_eq_nil_iff, hln]; omega)
    rw [List.drop_eq_getElem_cons hlt, refPatL, hlast] at hd
    generalize ps[i] = p at *
    refine Xc_h ?_; (conv => whnf); refine Hid.seq ?_; refine Hid.seq ?_; refine Hid.reg ?_; (conv => whnf); refine Hid.cond rfl ?_
    skip
    refine SIf.y Ty.mixed (decide_eq_true (by rw [hln]; omega)) ?_; refine Xc_h ?_; (conv => whnf); refine Hid.skip ?_; (conv => whnf); refine Hid.seq ?_; refine Hid.seq ?_; refine Hid.reg ?_; (conv => whnf)
    refine ⟨_, ⟨by first | omega | (rw [hln]; omega) | fail, by exact ga⟩, ?_⟩
    (conv => whnf); refine SCall.p (by exact refWord_any w0 p (by omega)) ?_; (conv => whnf); refine SCond.mk (fun hc => ?_) (fun hc => ?_); (conv => whnf); rotate_left; (conv => whnf)
    rotate_right
    refine SCond.y (by assumption) ?_; (conv => whnf); refine SCond.y (by assumption) ?_; (conv => whnf)
    refine ⟨_, ⟨by first | omega | (rw [hln]; omega) | fail, by exact ga⟩, ?_⟩
    (conv => whnf); refine SCond.y (by assumption) ?_; (conv => whnf); refine SCond.y (by assumption) ?_; (conv => whnf); refine SPick.y (by assumption) ?_; (conv => whnf); refine SCond.mk (fun hc => ?_) (fun hc => ?_); (conv => whnf); rotate_left; (conv => whnf)
    rotate_right
    refine SCond.y (by assumption) ?_; (conv => whnf); refine SCond.y (by assumption) ?_; (conv => whnf)
    refine ⟨_, ⟨by first | omega | (rw [hln]; omega) | fail, by exact ga⟩, ?_⟩
    (conv => whnf); refine SCond.y (by assumption) ?_; (conv => whnf); refine SCond.y (by assumption) ?_; (conv => whnf); refine SCond.y (by assumption) ?_; (conv => whnf); refine SCond.mk (fun hc => ?_) (fun hc => ?_); (conv => whnf); rotate_left; (conv => whnf)
    rotate_right
    refine SCond.y (by assumption) ?_; (conv => whnf); refine SCond.y (by assumption) ?_; (conv => whnf); refine SCond.y (by assumption) ?_; (conv => whnf); refine ⟨_, IntWalk.i64_in _ (by omega), ?_⟩; (conv => whnf); refine SCond.y (by assumption) ?_; (conv => whnf); refine SCond.y (by assumption) ?_; (conv => whnf); refine SPick.y (by assumption) ?_; (conv => whnf)
    refine SCond.y (by assumption) ?_; (conv => whnf); refine SPick.y (by assumption) ?_; (conv => whnf); refine Hid.cond rfl ?_; refine SIf.x Ty.mixed (fun hc => ?_) (fun hc => ?_); refine Xc_h ?_; (conv => whnf); refine Hid.seq ?_; refine Hid.reg ?_; (conv => whnf); refine Hid.ret ?_; (conv => whnf); rotate_left; refine Xc_h ?_; (conv => whnf); refine Hid.skip ?_; (conv => whnf)
    refine Hid.reg ?_; (conv => whnf)
    rotate_right
    rotate_left; refine ⟨_, IntWalk.i64_in _ (by omega), ?_⟩; (conv => whnf); rotate_left; refine SCond.n (by assumption) ?_; (conv => whnf); refine SCond.n (by assumption) ?_; (conv => whnf); refine SCond.n (by assumption) ?_; (conv => whnf); refine SCond.n (by assumption) ?_; (conv => whnf); refine SCond.y (by assumption) ?_; (conv => whnf); refine SPick.n (by assumption) ?_; (conv => whnf)
    refine SCond.y (by assumption) ?_; (conv => whnf); refine SPick.y (by assumption) ?_; (conv => whnf); refine Hid.cond rfl ?_; refine SIf.y Ty.mixed (by exact rfl) ?_; refine Xc_h ?_; (conv => whnf); refine Hid.seq ?_; refine Hid.reg ?_; (conv => whnf); refine Hid.ret ?_; (conv => whnf); rotate_left; refine SCond.n (by assumption) ?_; (conv => whnf); refine SCond.n (by assumption) ?_
    (conv => whnf); refine SCond.n (by assumption) ?_; (conv => whnf); refine SCond.n (by assumption) ?_; (conv => whnf); refine SCond.n (by assumption) ?_; (conv => whnf); refine SCond.n (by assumption) ?_; (conv => whnf); refine SCond.n (by assumption) ?_; (conv => whnf); refine SPick.n (by assumption) ?_; (conv => whnf); refine Hid.cond rfl ?_; refine SIf.n Ty.mixed (by exact rfl) ?_
    refine Xc_h ?_; (conv => whnf); refine Hid.skip ?_; (conv => whnf); refine Hid.reg ?_; (conv => whnf); refine ⟨_, IntWalk.i64_in _ (by omega), ?_⟩; (conv => whnf); rotate_left; refine SCond.n (by assumption) ?_; (conv => whnf); refine SCond.n (by assumption) ?_; (conv => whnf); refine SCond.n (by assumption) ?_; (conv => whnf); refine SCond.n (by assumption) ?_; (conv => whnf)
    refine SPick.n (by assumption) ?_; (conv => whnf); refine SCond.n (by exact rfl) ?_; (conv => whnf); refine SCond.n (by exact rfl) ?_; (conv => whnf); refine SCond.n (by exact rfl) ?_; (conv => whnf); refine SCond.n (by exact rfl) ?_; (conv => whnf); refine SCond.n (by exact rfl) ?_; (conv => whnf); refine SCond.n (by exact rfl) ?_; (conv => whnf); refine SCond.n (by exact rfl) ?_
    (conv => whnf); refine SCond.n (by exact rfl) ?_; (conv => whnf); refine SPick.n (by exact rfl) ?_; (conv => whnf); refine Hid.cond rfl ?_; refine SIf.n Ty.mixed (by exact rfl) ?_; refine Xc_h ?_; (conv => whnf); refine Hid.skip ?_; (conv => whnf); refine Hid.reg ?_; (conv => whnf); refine ⟨_, IntWalk.i64_in _ (by omega), ?_⟩; (conv => whnf); rotate_left
    all_goals
      rw [plusW] at hd
      generalize decide ((i : Int) = ((strs ps).length : Int) - 1) = q1 at *
      generalize decide (p = [43]) = q2 at *
      generalize decide (p = [35]) = q3 at *
      generalize wordS p = q4 at *
      first
        | (have hb : ((q2 || q4) || (q3 && q1)) = false := by
             clear hd hsp ga hlast hml
             cases q1 <;> cases q2 <;> cases q3 <;> cases q4 <;> simp_all
           rw [hb, Bool.false_and] at hd
           exact .p (.refl _) (by rw [← hd]; rfl))
        | (have hb : ((q2 || q4) || (q3 && q1)) = true := by
             clear hd hsp ga hlast hml
             cases q1 <;> cases q2 <;> cases q3 <;> cases q4 <;> simp_all
           rw [hb, Bool.true_and] at hd
           exact ⟨i + 1, by omega, by repeat (first | exact trivial | refine ⟨by first | trivial | exact Weak.refl _ | exact Weak.tok _ _ _ | exact Weak.of_eq (congrArg (AV.int _) (by omega)) | exact Weak.of_eq (congrArg AV.bool (by fail)) | exact Weak.nils _ _ (.inr rfl), ?_⟩), .none _, hlt, hd, rfl⟩)
  · have hge : i = ps.length := by omega
    subst hge
    rw [List.drop_length] at hd
    refine Xc_h ?_; (conv => whnf); refine Hid.seq ?_; refine Hid.seq ?_; refine Hid.reg ?_; (conv => whnf); refine Hid.cond rfl ?_
    skip
    refine SIf.n Ty.mixed (decide_eq_false (by rw [hln]; omega)) ?_; refine Xc_h ?_; (conv => whnf); refine Hid.exit ?_; (conv => whnf); refine Hid.seq ?_; refine Hid.reg ?_; (conv => whnf); refine Hid.ret ?_; (conv => whnf)
    skip
    exact .p (.refl _) (by rw [← hd, refPatL, Bool.true_and]; exact congrArg AV.bool (decide_eq_decide.2 (by omega)))
theorem has_any (w0 : Base) (s : List UInt8) (c : UInt8) (hs : s.length ≤ 1000000000) : CallP Tryz.prog w0 89 [.str s, .int .u8 c.toNat] (.bool (decide (c ∈ s))) := by
  refine CallP.h Ty.tok Ty.mixed Tryz.func89 rfl Tryz.ntmps89 rfl (by simp) (by decide +kernel) fun σ => ?_
  (conv => whnf); refine Hid.seq ?_; refine Hid.reg ?_; (conv => whnf); refine Hid.seq ?_; refine Hid.seq ?_; refine Hid.reg ?_; (conv => whnf); refine Hid.block ?_; refine Hid.loop ?_
  skip
  refine SLoop.by Ty.mixed (fun i : Nat => s.length - i) (fun i => [(0, .str s), (1, .int .u8 c.toNat), (5, .int .i64 i)]) (fun _ => []) (fun i τ => i ≤ s.length ∧ decide (c ∈ s.drop i) = decide (c ∈ s) ∧ τ = σ) 0 ⟨by repeat (first | exact trivial | refine ⟨by first | trivial | exact Weak.refl _ | exact Weak.tok _ _ _ | exact Weak.of_eq (congrArg (AV.int _) (by omega)) | exact Weak.of_eq (congrArg AV.bool (by fail)) | exact Weak.nils _ _ (.inr rfl), ?_⟩), .none _, Nat.zero_le _, rfl, rfl⟩ ?_
  rintro i τ ⟨hi, hd, rfl⟩
  by_cases hlt : i < s.length
  · have gc : s[((i : Int)).toNat]? = some s[i] := by simp [hlt]
    rw [List.drop_eq_getElem_cons hlt] at hd
    generalize s[i] = q at *
    refine Xc_h ?_; (conv => whnf); refine Hid.seq ?_; refine Hid.seq ?_; refine Hid.reg ?_; (conv => whnf); refine Hid.cond rfl ?_
    skip
    refine SIf.y Ty.mixed (decide_eq_true (by omega)) ?_; refine Xc_h ?_; (conv => whnf); refine Hid.skip ?_; (conv => whnf); refine Hid.seq ?_; refine Hid.seq ?_; refine Hid.reg ?_; (conv => whnf)
    refine ⟨_, ⟨by first | omega | (rw [hln]; omega) | fail, by exact gc⟩, ?_⟩
    (conv => whnf); refine Hid.cond rfl ?_
    by_cases he : q = c
    · refine SIf.y Ty.mixed (decide_eq_true (by rw [he])) ?_
      refine Xc_h ?_; (conv => whnf); refine Hid.seq ?_; refine Hid.reg ?_; (conv => whnf); refine Hid.ret ?_; (conv => whnf)
      skip
      exact .p (.refl _) (by rw [← hd]; simp [he])
    · refine SIf.n Ty.mixed (decide_eq_false fun e => he (UInt8.toNat_inj.1 (by omega))) ?_
      refine Xc_h ?_; (conv => whnf); refine Hid.skip ?_; (conv => whnf); refine Hid.reg ?_; (conv => whnf); refine ⟨_, IntWalk.i64_in _ (by omega), ?_⟩; (conv => whnf)
      exact ⟨i + 1, by omega, by repeat (first | exact trivial | refine ⟨by first | trivial | exact Weak.refl _ | exact Weak.tok _ _ _ | exact Weak.of_eq (congrArg (AV.int _) (by omega)) | exact Weak.of_eq (congrArg AV.bool (by fail)) | exact Weak.nils _ _ (.inr rfl), ?_⟩), .none _, hlt, by rw [← hd]; simp [Ne.symm he], rfl⟩
  · have hge : i = s.length := by omega
    subst hge
    rw [List.drop_length] at hd
    refine Xc_h ?_; (conv => whnf); refine Hid.seq ?_; refine Hid.seq ?_; refine Hid.reg ?_; (conv => whnf); refine Hid.cond rfl ?_
    skip
    refine SIf.n Ty.mixed (decide_eq_false (by omega)) ?_; refine Xc_h ?_; (conv => whnf); refine Hid.exit ?_; (conv => whnf); refine Hid.seq ?_; refine Hid.reg ?_; (conv => whnf); refine Hid.ret ?_; (conv => whnf)
    skip
    exact .p (.refl _) (by rw [← hd]; rfl)
theorem acked_any (w0 : Base) (l : List Int) (t : Tok) (n : Int) (hl : l.length ≤ 17592186043904) : CallP Tryz.prog w0 47 [.slc 1 (l.map (.int .i64)) t, .int .i64 n] (.bool (decide (n ∈ l))) := by
  refine CallP.h Ty.tok Ty.mixed Tryz.func47 rfl Tryz.ntmps47 rfl (by simp) (by decide +kernel) fun σ => ?_
  (conv => whnf); refine Hid.seq ?_; refine Hid.reg ?_; (conv => whnf); refine Hid.seq ?_; refine Hid.seq ?_; refine Hid.reg ?_; (conv => whnf); refine Hid.block ?_; refine Hid.loop ?_
  skip
  have hln : (l.map (AV.int .i64)).length = l.length := by simp
  refine SLoop.by Ty.mixed (fun i : Nat => l.length - i) (fun i => [(0, .slc 1 (l.map (.int .i64)) t), (1, .int .i64 n), (5, .int .i64 i)]) (fun _ => []) (fun i τ => i ≤ l.length ∧ decide (n ∈ l.drop i) = decide (n ∈ l) ∧ τ = σ) 0 ⟨by repeat (first | exact trivial | refine ⟨by first | trivial | exact Weak.refl _ | exact Weak.tok _ _ _ | exact Weak.of_eq (congrArg (AV.int _) (by omega)) | exact Weak.of_eq (congrArg AV.bool (by fail)) | exact Weak.nils _ _ (.inr rfl), ?_⟩), .none _, Nat.zero_le _, rfl, rfl⟩ ?_
  rintro i τ ⟨hi, hd, rfl⟩
  by_cases hlt : i < l.length
  · have gc : (l.map (AV.int .i64))[i]? = some (.int .i64 l[i]) := by simp [hlt]
    rw [List.drop_eq_getElem_cons hlt] at hd
    generalize l[i] = q at *
    refine Xc_h ?_; (conv => whnf); refine Hid.seq ?_; refine Hid.seq ?_; refine Hid.reg ?_; (conv => whnf); refine Hid.cond rfl ?_
    skip
    refine SIf.y Ty.mixed (decide_eq_true (by rw [hln]; omega)) ?_; refine Xc_h ?_; (conv => whnf); refine Hid.skip ?_; (conv => whnf); refine Hid.seq ?_; refine Hid.seq ?_; refine Hid.reg ?_; (conv => whnf)
    refine ⟨_, ⟨by first | omega | (rw [hln]; omega) | fail, by exact gc⟩, ?_⟩
    (conv => whnf); refine Hid.cond rfl ?_
    by_cases he : q = n
    · refine SIf.y Ty.mixed (decide_eq_true he) ?_
      refine Xc_h ?_; (conv => whnf); refine Hid.seq ?_; refine Hid.reg ?_; (conv => whnf); refine Hid.ret ?_; (conv => whnf)
      skip
      exact .p (.refl _) (by rw [← hd]; simp [he])
    · refine SIf.n Ty.mixed (decide_eq_false he) ?_
      refine Xc_h ?_; (conv => whnf); refine Hid.skip ?_; (conv => whnf); refine Hid.reg ?_; (conv => whnf); refine ⟨_, IntWalk.i64_in _ (by omega), ?_⟩; (conv => whnf)
      exact ⟨i + 1, by omega, by repeat (first | exact trivial | refine ⟨by first | trivial | exact Weak.refl _ | exact Weak.tok _ _ _ | exact Weak.of_eq (congrArg (AV.int _) (by omega)) | exact Weak.of_eq (congrArg AV.bool (by fail)) | exact Weak.nils _ _ (.inr rfl), ?_⟩), .none _, hlt, by rw [← hd]; simp [Ne.symm he], rfl⟩
  · have hge : i = l.length := by omega
    subst hge
    rw [List.drop_length] at hd
    refine Xc_h ?_; (conv => whnf); refine Hid.seq ?_; refine Hid.seq ?_; refine Hid.reg ?_; (conv => whnf); refine Hid.cond rfl ?_
    skip
    refine SIf.n Ty.mixed (decide_eq_false (by rw [hln]; omega)) ?_; refine Xc_h ?_; (conv => whnf); refine Hid.exit ?_; (conv => whnf); refine Hid.seq ?_; refine Hid.reg ?_; (conv => whnf); refine Hid.ret ?_; (conv => whnf)
    skip
    exact .p (.refl _) (by rw [← hd]; rfl)
theorem refName_any (w0 : Base) (s : List UInt8) (hs : s.length ≤ 1000000000) : CallP Tryz.prog w0 65 [.str s] (.bool (nameT s)) := by
  refine CallP.h Ty.tok Ty.mixed Tryz.func65 rfl Tryz.ntmps65 rfl (by simp) (by decide +kernel) fun σ => ?_
  have hcg := has_any w0 s 47 hs
  (conv => whnf); refine Hid.seq ?_; refine Hid.reg ?_; (conv => whnf); refine Hid.seq ?_; refine Hid.reg ?_; (conv => whnf); refine SCond.mk (fun hc => ?_) (fun hc => ?_); (conv => whnf); rotate_left; (conv => whnf)
  rotate_right
  refine SCond.y (by assumption) ?_; (conv => whnf); refine SCall.p (by exact refRight_any w0 s hs) ?_; (conv => whnf); refine SPick.y (by assumption) ?_; (conv => whnf); refine SCond.mk (fun hc => ?_) (fun hc => ?_); (conv => whnf); rotate_left; (conv => whnf)
  rotate_right
  refine SCond.y (by assumption) ?_; (conv => whnf); refine SCall.p (by exact hcg) ?_; (conv => whnf); refine SCond.y (by assumption) ?_; (conv => whnf); refine SPick.y (by assumption) ?_; (conv => whnf); refine Hid.ret ?_; (conv => whnf); rotate_left; refine SCond.n (by assumption) ?_; (conv => whnf); refine SCond.n (by assumption) ?_; (conv => whnf); refine SPick.n (by assumption) ?_
  (conv => whnf); refine Hid.ret ?_; (conv => whnf); rotate_left; refine SCond.n (by assumption) ?_; (conv => whnf); refine SPick.n (by assumption) ?_; (conv => whnf); refine SCond.n (by exact rfl) ?_; (conv => whnf); refine SCond.n (by exact rfl) ?_; (conv => whnf); refine SCond.n (by exact rfl) ?_; (conv => whnf); refine SPick.n (by exact rfl) ?_; (conv => whnf); refine Hid.ret ?_; (conv => whnf)
  rotate_left
  all_goals
    refine .p (.refl _) (congrArg AV.bool ?_)
    rw [nameT, idx_mem]
    rw [Bool.eq_iff_iff]
    simp_all
    try omega
end Go.Proofs.YtgliemhhnkhboaaGreatDoor
end
section
set_option linter.unusedVariables false
set_option linter.unusedSimpArgs false
set_option maxRecDepth 100000
set_option maxHeartbeats 2000000
namespace Go.Proofs.YtgliemhhnkhboaaGreatDoor
open Go.Al Go.RowKit
theorem refPair_cases (last p : List UInt8) : (∃ a b, pcs 61 p = [a, b] ∧ cutA 61 p = a ∧ pairB last p = ((wordS a && wordS b) && !(ltS a last || decide (a = last)))) ∨ ((pcs 61 p).length ≠ 2 ∧ pairB last p = false) := by
  rw [← refPair_eq, refPairB]
  rcases ix_cases 61 p with ⟨hi, hp⟩ | ⟨i, hi, hil, hp⟩
  · right; rw [hp]; exact ⟨by simp, rfl⟩
  · have h2 : cutA 61 p = p.take i := by rw [cutA, hi, if_pos (by omega)]; rfl
    rw [h2, hp]
    cases e : pcs 61 (p.drop (i + 1)) with
    | nil => exact absurd e (pcs_ne _ _)
    | cons b l =>
      cases l with
      | nil => exact .inl ⟨_, b, rfl, rfl, rfl⟩
      | cons x l => exact .inr ⟨by simp, rfl⟩
theorem refPairs_go (w0 : Base) (s : List UInt8) (h0 : s ≠ []) (ps : List (List UInt8)) (hml : ∀ p ∈ ps, p.length ≤ 1000000000) (hpl : ps.length ≤ 1000000001) (hsp : CallP Tryz.prog w0 90 [.str s, .int .u8 ((44 : UInt8).toNat : Nat)] (.slc 1 (strs ps) .no)) (r : AV) (h1 : pairsB [] ps = true → r = .slc 1 (strs ps) .no) (h2 : pairsB [] ps = false → r = .nils) : CallP Tryz.prog w0 92 [.str s] (.tup [r, .bool (pairsB [] ps && decide (s.length ≤ 30))]) := by
  refine CallP.h Ty.tok Ty.mixed Tryz.func92 rfl Tryz.ntmps92 rfl (by simp) (by decide +kernel) fun σ => ?_
  (conv => whnf); refine Hid.seq ?_; refine Hid.reg ?_; (conv => whnf); refine Hid.seq ?_; refine Hid.seq ?_; refine Hid.reg ?_; (conv => whnf); refine Hid.cond rfl ?_
  skip
  refine SIf.n Ty.mixed (decide_eq_false h0) ?_; refine Xc_h ?_; (conv => whnf); refine Hid.skip ?_; (conv => whnf); refine Hid.seq ?_; refine Hid.reg ?_; (conv => whnf); refine SCall.p (by exact hsp) ?_; (conv => whnf); refine Hid.seq ?_; refine Hid.reg ?_; (conv => whnf); refine Hid.seq ?_; refine Hid.seq ?_; refine Hid.reg ?_; (conv => whnf); refine Hid.block ?_; refine Hid.loop ?_
  have hln := strs_len ps
  refine SLoop.by Ty.mixed (fun ((i, last) : Nat × List UInt8) => ps.length - i) (fun (i, last) => [(0, .str s), (4, .slc 1 (strs ps) .no), (5, .str last), (6, .int .i64 i)]) (fun _ => []) (fun (i, last) τ => i ≤ ps.length ∧ pairsB last (ps.drop i) = pairsB [] ps ∧ τ = σ) (0, []) ⟨by repeat (first | exact trivial | refine ⟨by first | trivial | exact Weak.refl _ | exact Weak.tok _ _ _ | exact Weak.of_eq (congrArg (AV.int _) (by omega)) | exact Weak.of_eq (congrArg AV.bool (by fail)) | exact Weak.nils _ _ (.inr rfl), ?_⟩), .none _, Nat.zero_le _, rfl, rfl⟩ ?_
  rintro ⟨i, last⟩ τ ⟨hi, hd, rfl⟩
  by_cases hlt : i < ps.length
  · have ga : (strs ps)[i]? = some (.str ps[i]) := by simp [strs, hlt]
    have hpm := hml _ (List.getElem_mem hlt)
    rw [List.drop_eq_getElem_cons hlt, pairsB] at hd
    generalize ps[i] = p at *
    have hs2 := refSplit_any w0 p 61 hpm
    rcases refPair_cases last p with ⟨a, b, hp, hca, hpb⟩ | ⟨hp, hpb⟩
    · have hpa := pcs_mem_len 61 p a (by rw [hp]; simp)
      have hpb2 := pcs_mem_len 61 p b (by rw [hp]; simp)
      rw [hp, show strs [a, b] = [.str a, .str b] from rfl] at hs2
      rw [hca, hpb] at hd
      clear hca hpb hp; refine Xc_h ?_; (conv => whnf); refine Hid.seq ?_; refine Hid.seq ?_; refine Hid.reg ?_; (conv => whnf); refine Hid.cond rfl ?_
      skip
      refine SIf.y Ty.mixed (decide_eq_true (by rw [hln]; omega)) ?_; refine Xc_h ?_; (conv => whnf); refine Hid.skip ?_; (conv => whnf); refine Hid.seq ?_; refine Hid.seq ?_; refine Hid.reg ?_; (conv => whnf)
      refine ⟨_, ⟨by first | omega | (rw [hln]; omega) | decide | fail, by first | exact ga | exact rfl⟩, ?_⟩
      (conv => whnf); refine SCall.p (by exact hs2) ?_; (conv => whnf); refine Hid.seq ?_; refine Hid.seq ?_; refine Hid.reg ?_; (conv => whnf); refine SCond.n (by exact rfl) ?_; (conv => whnf); refine SCond.n (by exact rfl) ?_; (conv => whnf)
      refine ⟨_, ⟨by first | omega | (rw [hln]; omega) | decide | fail, by first | exact ga | exact rfl⟩, ?_⟩
      (conv => whnf); refine SCond.n (by exact rfl) ?_; (conv => whnf); refine SCond.n (by exact rfl) ?_; (conv => whnf); refine SCall.p (by exact refWord_any w0 a (by omega)) ?_; (conv => whnf); refine SCond.n (by exact rfl) ?_; (conv => whnf); refine SPick.n (by exact rfl) ?_; (conv => whnf); refine SCond.mk (fun hc => ?_) (fun hc => ?_); (conv => whnf); rotate_left; (conv => whnf)
      rotate_right
      refine SCond.y (by assumption) ?_; (conv => whnf); refine SCond.y (by assumption) ?_; (conv => whnf); refine SCond.y (by assumption) ?_; (conv => whnf); refine SCond.y (by assumption) ?_; (conv => whnf); refine SPick.y (by assumption) ?_; (conv => whnf); refine SCond.y (by exact rfl) ?_; (conv => whnf); refine SCond.y (by exact rfl) ?_; (conv => whnf); refine SCond.y (by exact rfl) ?_
      (conv => whnf); refine SCond.y (by exact rfl) ?_; (conv => whnf); refine SCond.y (by exact rfl) ?_; (conv => whnf); refine SPick.y (by exact rfl) ?_; (conv => whnf); refine Hid.cond rfl ?_; refine SIf.y Ty.mixed (by exact rfl) ?_; refine Xc_h ?_; (conv => whnf); refine Hid.seq ?_; refine Hid.reg ?_; (conv => whnf); refine Hid.ret ?_; (conv => whnf); rotate_left
      refine SCond.n (by assumption) ?_; (conv => whnf)
      refine ⟨_, ⟨by first | omega | (rw [hln]; omega) | decide | fail, by first | exact ga | exact rfl⟩, ?_⟩
      (conv => whnf); refine SCond.n (by assumption) ?_; (conv => whnf); refine SCond.n (by assumption) ?_; (conv => whnf); refine SCall.p (by exact refWord_any w0 b (by omega)) ?_; (conv => whnf); refine SCond.n (by assumption) ?_; (conv => whnf); refine SPick.n (by assumption) ?_; (conv => whnf); refine SCond.mk (fun hc => ?_) (fun hc => ?_); (conv => whnf); rotate_left; (conv => whnf)
      rotate_right
      refine SCond.y (by assumption) ?_; (conv => whnf); refine SCond.y (by assumption) ?_; (conv => whnf); refine SCond.y (by assumption) ?_; (conv => whnf); refine SCond.y (by assumption) ?_; (conv => whnf); refine SPick.y (by assumption) ?_; (conv => whnf); refine Hid.cond rfl ?_; refine SIf.y Ty.mixed (by exact rfl) ?_; refine Xc_h ?_; (conv => whnf); refine Hid.seq ?_; refine Hid.reg ?_
      (conv => whnf); refine Hid.ret ?_; (conv => whnf); rotate_left; refine SCond.n (by assumption) ?_; (conv => whnf)
      refine ⟨_, ⟨by first | omega | (rw [hln]; omega) | decide | fail, by first | exact ga | exact rfl⟩, ?_⟩
      (conv => whnf); refine SCond.n (by assumption) ?_; (conv => whnf); refine SCond.n (by assumption) ?_; (conv => whnf); refine SCond.n (by assumption) ?_; (conv => whnf); refine SPick.n (by assumption) ?_; (conv => whnf); refine Hid.cond rfl ?_; refine SIf.x Ty.mixed (fun hc => ?_) (fun hc => ?_); refine Xc_h ?_; (conv => whnf); refine Hid.seq ?_; refine Hid.reg ?_; (conv => whnf)
      refine Hid.ret ?_; (conv => whnf); rotate_left; refine Xc_h ?_; (conv => whnf); refine Hid.skip ?_; (conv => whnf); refine Hid.reg ?_; (conv => whnf)
      rotate_right
      rotate_left
      refine ⟨_, ⟨by first | omega | (rw [hln]; omega) | decide | fail, by first | exact ga | exact rfl⟩, ?_⟩
      (conv => whnf); refine Hid.reg ?_; (conv => whnf); refine ⟨_, IntWalk.i64_in _ (by omega), ?_⟩; (conv => whnf); rotate_left
      all_goals
        generalize wordS a = q1 at *
        generalize wordS b = q2 at *
        generalize (ltS a last || decide (a = last)) = q3 at *
        first
          | (have hb : ((q1 && q2) && !q3) = false := by
               clear hd hsp hs2 ga hml h1 h2
               cases q1 <;> cases q2 <;> cases q3 <;> simp_all
             rw [hb, Bool.false_and] at hd
             exact .p (.refl _) (by rw [h2 hd.symm, ← hd]; rfl))
          | (have hb : ((q1 && q2) && !q3) = true := by
               clear hd hsp hs2 ga hml h1 h2
               cases q1 <;> cases q2 <;> cases q3 <;> simp_all
             rw [hb, Bool.true_and] at hd
             exact ⟨(i + 1, a), by show ps.length - (i + 1) < ps.length - i; omega, by repeat (first | exact trivial | refine ⟨by first | trivial | exact Weak.refl _ | exact Weak.tok _ _ _ | exact Weak.of_eq (congrArg (AV.int _) (by omega)) | exact Weak.of_eq (congrArg AV.bool (by fail)) | exact Weak.nils _ _ (.inr rfl), ?_⟩), .none _, hlt, hd, rfl⟩)
    · rw [hpb, Bool.false_and] at hd
      have hl2 : ((strs (pcs 61 p)).length : Int) ≠ 2 := by rw [strs_len]; omega
      generalize strs (pcs 61 p) = qs at *
      have d1 : (!decide ((qs.length : Int) = 2)) = true := by rw [decide_eq_false hl2]; rfl
      refine Xc_h ?_; (conv => whnf); refine Hid.seq ?_; refine Hid.seq ?_; refine Hid.reg ?_; (conv => whnf); refine Hid.cond rfl ?_
      skip
      refine SIf.y Ty.mixed (decide_eq_true (by rw [hln]; omega)) ?_; refine Xc_h ?_; (conv => whnf); refine Hid.skip ?_; (conv => whnf); refine Hid.seq ?_; refine Hid.seq ?_; refine Hid.reg ?_; (conv => whnf)
      refine ⟨_, ⟨by first | omega | (rw [hln]; omega) | fail, by exact ga⟩, ?_⟩
      (conv => whnf); refine SCall.p (by exact hs2) ?_; (conv => whnf); refine Hid.seq ?_; refine Hid.seq ?_; refine Hid.reg ?_; (conv => whnf); refine SCond.y (by assumption) ?_; (conv => whnf); refine SCond.y (by assumption) ?_; (conv => whnf); refine SCond.y (by assumption) ?_; (conv => whnf); refine SCond.y (by assumption) ?_; (conv => whnf); refine SCond.y (by assumption) ?_; (conv => whnf)
      refine SPick.y (by assumption) ?_; (conv => whnf); refine SCond.y (by exact rfl) ?_; (conv => whnf); refine SCond.y (by exact rfl) ?_; (conv => whnf); refine SCond.y (by exact rfl) ?_; (conv => whnf); refine SCond.y (by exact rfl) ?_; (conv => whnf); refine SCond.y (by exact rfl) ?_; (conv => whnf); refine SPick.y (by exact rfl) ?_; (conv => whnf); refine SCond.y (by exact rfl) ?_
      (conv => whnf); refine SCond.y (by exact rfl) ?_; (conv => whnf); refine SCond.y (by exact rfl) ?_; (conv => whnf); refine SCond.y (by exact rfl) ?_; (conv => whnf); refine SCond.y (by exact rfl) ?_; (conv => whnf); refine SPick.y (by exact rfl) ?_; (conv => whnf); refine Hid.cond rfl ?_; refine SIf.y Ty.mixed (by exact rfl) ?_; refine Xc_h ?_; (conv => whnf); refine Hid.seq ?_
      refine Hid.reg ?_; (conv => whnf); refine Hid.ret ?_; (conv => whnf); exact .p (.refl _) (by rw [h2 hd.symm, ← hd]; rfl)
  · have hge : i = ps.length := by omega
    subst hge
    rw [List.drop_length] at hd
    have hb : pairsB [] ps = true := hd.symm
    refine Xc_h ?_; (conv => whnf); refine Hid.seq ?_; refine Hid.seq ?_; refine Hid.reg ?_; (conv => whnf); refine Hid.cond rfl ?_
    skip
    refine SIf.n Ty.mixed (decide_eq_false (by rw [hln]; omega)) ?_; refine Xc_h ?_; (conv => whnf); refine Hid.exit ?_; (conv => whnf); refine Hid.seq ?_; refine Hid.reg ?_; (conv => whnf); refine Hid.ret ?_; (conv => whnf)
    skip
    exact .p (.refl _) (by rw [h1 hb, hb, Bool.true_and, show decide (s.length ≤ 30) = decide ((s.length : Int) ≤ 30) from decide_eq_decide.2 (by omega)])
theorem refPairs_any (w0 : Base) (s : List UInt8) (hs : s.length ≤ 1000000000) : ∃ r, (r = .nils ∨ r = .slc 1 (strs (pcs 44 s)) .no) ∧ CallP Tryz.prog w0 92 [.str s] (.tup [r, .bool (attrsT s)]) := by
  by_cases h0 : s = []
  · subst h0
    refine ⟨.nils, .inl rfl, ?_⟩
    refine CallP.h Ty.tok Ty.mixed Tryz.func92 rfl Tryz.ntmps92 rfl (by simp) (by decide +kernel) fun σ => ?_
    (conv => whnf); refine Hid.seq ?_; refine Hid.reg ?_; (conv => whnf); refine Hid.seq ?_; refine Hid.seq ?_; refine Hid.reg ?_; (conv => whnf); refine Hid.cond rfl ?_; refine SIf.y Ty.mixed (by exact rfl) ?_; refine Xc_h ?_; (conv => whnf); refine Hid.seq ?_; refine Hid.reg ?_; (conv => whnf); refine Hid.ret ?_; (conv => whnf); exact .p (.refl _) rfl
  have hat : attrsT s = (pairsB [] (pcs 44 s) && decide (s.length ≤ 30)) := by rw [attrsT, decide_eq_false h0, Bool.false_or]
  rw [hat]
  have go := refPairs_go w0 s h0 (pcs 44 s) (fun p hp => Nat.le_trans (pcs_mem_len 44 s p hp) hs) (Nat.le_trans (pcs_len 44 s) (by omega)) (refSplit_any w0 s 44 hs)
  cases hb : pairsB [] (pcs 44 s) with
  | true => exact ⟨_, .inr rfl, hb ▸ go _ (fun _ => rfl) (fun h => by rw [hb] at h; cases h)⟩
  | false => exact ⟨_, .inl rfl, hb ▸ go _ (fun h => by rw [hb] at h; cases h) (fun _ => rfl)⟩
theorem refAttrs_any (w0 : Base) (s : List UInt8) (hs : s.length ≤ 1000000000) : CallP Tryz.prog w0 67 [.str s] (.bool (attrsT s)) := by
  obtain ⟨r, hr, h⟩ := refPairs_any w0 s hs
  refine CallP.h Ty.tok Ty.mixed Tryz.func67 rfl Tryz.ntmps67 rfl (by simp) (by decide +kernel) fun σ => ?_
  rcases hr with rfl | rfl
  · (conv => whnf)
    refine Hid.seq ?_; refine Hid.reg ?_; (conv => whnf); refine Hid.seq ?_; refine Hid.reg ?_; (conv => whnf); refine SCall.p (by exact h) ?_; (conv => whnf); refine Hid.seq ?_; refine Hid.reg ?_; (conv => whnf); refine Hid.ret ?_; (conv => whnf); exact .p (.refl _) rfl
  · (conv => whnf)
    refine Hid.seq ?_; refine Hid.reg ?_; (conv => whnf); refine Hid.seq ?_; refine Hid.reg ?_; (conv => whnf); refine SCall.p (by exact h) ?_; (conv => whnf); refine Hid.seq ?_; refine Hid.reg ?_; (conv => whnf); refine Hid.ret ?_; (conv => whnf); exact .p (.refl _) rfl
end Go.Proofs.YtgliemhhnkhboaaGreatDoor
end
section
set_option linter.unusedVariables false
set_option linter.unusedSimpArgs false
set_option maxRecDepth 100000
set_option maxHeartbeats 4000000
namespace Go.Proofs.YtgliemhhnkhboaaGreatDoor
open Go.Al Go.RowKit
theorem refMessage_any (w0 : Base) (m : Msg) (x : Sub) (clock : Int) (hat : m.attr.length ≤ 1000000000) (hm : 1 ≤ x.most ∧ x.most ≤ 9) (hl : 1 ≤ x.lease ∧ x.lease ≤ 1000) (hck : -4611686018427387904 ≤ clock ∧ clock ≤ 4611686018427387904) : CallP Tryz.prog w0 48 [eMsg m, eSub x, .int .i64 clock] (.bool (msgT m x.most x.lease clock)) := by
  refine CallP.h Ty.tok Ty.mixed Tryz.func48 rfl Tryz.ntmps48 rfl (by simp) (by decide +kernel) fun σ => ?_
  (conv => whnf); refine Hid.seq ?_; refine Hid.reg ?_; (conv => whnf); refine SBox.f ?_; (conv => whnf); refine SBox.f ?_; (conv => whnf); refine Hid.seq ?_; refine Hid.seq ?_; refine Hid.reg ?_; (conv => whnf); refine SCond.mk (fun hc => ?_) (fun hc => ?_); (conv => whnf); rotate_left; (conv => whnf)
  rotate_right
  refine SCond.y (by assumption) ?_; (conv => whnf); refine SCond.y (by assumption) ?_; (conv => whnf); refine SCond.y (by assumption) ?_; (conv => whnf); refine SPick.y (by assumption) ?_; (conv => whnf); refine SCond.y (by exact rfl) ?_; (conv => whnf); refine SCond.y (by exact rfl) ?_; (conv => whnf); refine SCond.y (by exact rfl) ?_; (conv => whnf); refine SPick.y (by exact rfl) ?_
  (conv => whnf); refine SCond.y (by exact rfl) ?_; (conv => whnf); refine SCond.y (by exact rfl) ?_; (conv => whnf); refine SCond.y (by exact rfl) ?_; (conv => whnf); refine SPick.y (by exact rfl) ?_; (conv => whnf); refine Hid.cond rfl ?_; refine SIf.y Ty.mixed (by exact rfl) ?_; refine Xc_h ?_; (conv => whnf); refine Hid.seq ?_; refine Hid.reg ?_; (conv => whnf); refine Hid.ret ?_
  (conv => whnf); rotate_left; refine SCond.n (by assumption) ?_; (conv => whnf); refine SCond.n (by assumption) ?_; (conv => whnf); refine SCall.p (by exact refAttrs_any w0 _ hat) ?_; (conv => whnf); refine SCond.n (by assumption) ?_; (conv => whnf); refine SPick.n (by assumption) ?_; (conv => whnf); refine SCond.mk (fun hc => ?_) (fun hc => ?_); (conv => whnf); rotate_left; (conv => whnf)
  rotate_right
  refine SCond.y (by assumption) ?_; (conv => whnf); refine SCond.y (by assumption) ?_; (conv => whnf); refine SPick.y (by assumption) ?_; (conv => whnf); refine SCond.y (by exact rfl) ?_; (conv => whnf); refine SCond.y (by exact rfl) ?_; (conv => whnf); refine SCond.y (by exact rfl) ?_; (conv => whnf); refine SPick.y (by exact rfl) ?_; (conv => whnf); refine Hid.cond rfl ?_
  refine SIf.y Ty.mixed (by exact rfl) ?_; refine Xc_h ?_; (conv => whnf); refine Hid.seq ?_; refine Hid.reg ?_; (conv => whnf); refine Hid.ret ?_; (conv => whnf); rotate_left; refine SCond.n (by assumption) ?_; (conv => whnf); refine SCond.n (by assumption) ?_; (conv => whnf); refine SPick.n (by assumption) ?_; (conv => whnf); refine SCond.mk (fun hc => ?_) (fun hc => ?_); (conv => whnf)
  rotate_left; (conv => whnf)
  rotate_right
  refine SCond.y (by assumption) ?_; (conv => whnf); refine SCond.y (by assumption) ?_; (conv => whnf); refine SPick.y (by assumption) ?_; (conv => whnf); refine Hid.cond rfl ?_; refine SIf.y Ty.mixed (by exact rfl) ?_; refine Xc_h ?_; (conv => whnf); refine Hid.seq ?_; refine Hid.reg ?_; (conv => whnf); refine Hid.ret ?_; (conv => whnf); rotate_left; refine SCond.n (by assumption) ?_
  (conv => whnf); refine SCond.n (by assumption) ?_; (conv => whnf); refine SPick.n (by assumption) ?_; (conv => whnf); refine Hid.cond rfl ?_; refine SIf.x Ty.mixed (fun hc => ?_) (fun hc => ?_); refine Xc_h ?_; (conv => whnf); refine Hid.seq ?_; refine Hid.reg ?_; (conv => whnf); refine Hid.ret ?_; (conv => whnf); rotate_left; refine Xc_h ?_; (conv => whnf); refine Hid.skip ?_; (conv => whnf)
  refine Hid.seq ?_; refine Hid.seq ?_; refine Hid.reg ?_; (conv => whnf); refine Hid.cond rfl ?_
  rotate_right
  rotate_left; refine SIf.x Ty.mixed (fun hc => ?_) (fun hc => ?_); refine Xc_h ?_; (conv => whnf); refine Hid.seq ?_; refine Hid.reg ?_; (conv => whnf); rotate_left; refine Xc_h ?_; (conv => whnf); refine Hid.skip ?_; (conv => whnf); refine Hid.seq ?_; refine Hid.seq ?_; refine Hid.reg ?_; (conv => whnf); refine Hid.cond rfl ?_
  rotate_right
  refine SCond.mk (fun hc => ?_) (fun hc => ?_); (conv => whnf); rotate_left; (conv => whnf)
  rotate_right
  refine SCond.y (by assumption) ?_; (conv => whnf); refine SCond.y (by assumption) ?_; (conv => whnf); refine SCond.y (by assumption) ?_; (conv => whnf); refine SCond.mk (fun hc => ?_) (fun hc => ?_); (conv => whnf); rotate_left; (conv => whnf)
  rotate_right
  refine SCond.y (by assumption) ?_; (conv => whnf); refine SCond.y (by assumption) ?_; (conv => whnf); refine SCond.y (by assumption) ?_; (conv => whnf); refine SPick.y (by assumption) ?_; (conv => whnf); refine SPick.y (by assumption) ?_; (conv => whnf); refine SCond.y (by exact rfl) ?_; (conv => whnf); refine SCond.y (by exact rfl) ?_; (conv => whnf); refine SCond.y (by exact rfl) ?_
  (conv => whnf); refine SCond.y (by exact rfl) ?_; (conv => whnf); refine SCond.y (by exact rfl) ?_; (conv => whnf); refine SPick.y (by exact rfl) ?_; (conv => whnf); refine Hid.ret ?_; (conv => whnf); rotate_left; refine SCond.n (by assumption) ?_; (conv => whnf); refine SCond.n (by assumption) ?_; (conv => whnf); refine SCond.y (by assumption) ?_; (conv => whnf)
  refine SPick.n (by assumption) ?_; (conv => whnf); refine SPick.y (by assumption) ?_; (conv => whnf); refine SCond.mk (fun hc => ?_) (fun hc => ?_); (conv => whnf); rotate_left; (conv => whnf)
  rotate_right
  refine SCond.y (by assumption) ?_; (conv => whnf); refine SCond.y (by assumption) ?_; (conv => whnf); refine SCond.y (by assumption) ?_; (conv => whnf); refine SCond.y (by assumption) ?_; (conv => whnf); refine SPick.y (by assumption) ?_; (conv => whnf); refine Hid.ret ?_; (conv => whnf); rotate_left; refine SCond.n (by assumption) ?_; (conv => whnf); refine SCond.n (by assumption) ?_
  (conv => whnf); refine SCond.n (by assumption) ?_; (conv => whnf); refine SCond.n (by assumption) ?_; (conv => whnf); refine SPick.n (by assumption) ?_; (conv => whnf); refine Hid.ret ?_; (conv => whnf); rotate_left; refine SCond.n (by assumption) ?_; (conv => whnf); refine SCond.n (by assumption) ?_; (conv => whnf); refine SCond.n (by assumption) ?_; (conv => whnf)
  refine SCond.n (by assumption) ?_; (conv => whnf); refine SPick.n (by assumption) ?_; (conv => whnf); refine SCond.n (by exact rfl) ?_; (conv => whnf); refine SCond.n (by exact rfl) ?_; (conv => whnf); refine SCond.n (by exact rfl) ?_; (conv => whnf); refine SCond.n (by exact rfl) ?_; (conv => whnf); refine SCond.n (by exact rfl) ?_; (conv => whnf); refine SPick.n (by exact rfl) ?_
  (conv => whnf); refine Hid.ret ?_; (conv => whnf); rotate_left; refine SIf.x Ty.mixed (fun hc => ?_) (fun hc => ?_); refine Xc_h ?_; (conv => whnf); refine Hid.seq ?_; refine Hid.reg ?_; (conv => whnf); refine Hid.ret ?_; (conv => whnf); rotate_left; refine Xc_h ?_; (conv => whnf); refine Hid.skip ?_; (conv => whnf); refine Hid.seq ?_; refine Hid.seq ?_; refine Hid.reg ?_; (conv => whnf)
  refine Hid.cond rfl ?_
  rotate_right
  rotate_left; refine SIf.x Ty.mixed (fun hc => ?_) (fun hc => ?_); refine Xc_h ?_; (conv => whnf); refine Hid.seq ?_; refine Hid.reg ?_; (conv => whnf); rotate_left; refine Xc_h ?_; (conv => whnf); refine Hid.skip ?_; (conv => whnf); refine Hid.seq ?_; refine Hid.reg ?_; (conv => whnf)
  rotate_right
  refine SCond.mk (fun hc => ?_) (fun hc => ?_); (conv => whnf); rotate_left; (conv => whnf)
  rotate_right
  refine SCond.y (by assumption) ?_; (conv => whnf); refine SCond.y (by assumption) ?_; (conv => whnf); refine SCond.y (by assumption) ?_; (conv => whnf); refine SCond.y (by assumption) ?_; (conv => whnf); refine SPick.y (by assumption) ?_; (conv => whnf); refine Hid.ret ?_; (conv => whnf); rotate_left; refine SCond.n (by assumption) ?_; (conv => whnf); refine SCond.n (by assumption) ?_
  (conv => whnf); refine SCond.n (by assumption) ?_; (conv => whnf); refine SCond.n (by assumption) ?_; (conv => whnf); refine SPick.n (by assumption) ?_; (conv => whnf); refine Hid.ret ?_; (conv => whnf); rotate_left; refine SCond.mk (fun hc => ?_) (fun hc => ?_); (conv => whnf); rotate_left; (conv => whnf)
  rotate_right
  refine SCond.y (by assumption) ?_; (conv => whnf); refine SCond.y (by assumption) ?_; (conv => whnf); refine SCond.y (by assumption) ?_; (conv => whnf); refine SCond.y (by assumption) ?_; (conv => whnf); refine SPick.y (by assumption) ?_; (conv => whnf); refine SCond.mk (fun hc => ?_) (fun hc => ?_); (conv => whnf); rotate_left; (conv => whnf)
  rotate_right
  refine SCond.y (by assumption) ?_; (conv => whnf); refine SCond.y (by assumption) ?_; (conv => whnf); refine SCond.y (by assumption) ?_; (conv => whnf); refine SPick.y (by assumption) ?_; (conv => whnf); refine SCond.mk (fun hc => ?_) (fun hc => ?_); (conv => whnf); rotate_left; (conv => whnf)
  rotate_right
  refine SCond.y (by assumption) ?_; (conv => whnf); refine SCond.y (by assumption) ?_; (conv => whnf); refine SCond.y (by assumption) ?_; (conv => whnf); refine SCond.y (by assumption) ?_; (conv => whnf); refine SCond.y (by assumption) ?_; (conv => whnf); refine ⟨_, IntWalk.i64_in _ (by omega), ?_⟩; (conv => whnf); refine SCond.y (by assumption) ?_; (conv => whnf)
  refine SPick.y (by assumption) ?_; (conv => whnf); refine Hid.ret ?_; (conv => whnf); rotate_left; refine SCond.n (by assumption) ?_; (conv => whnf); refine SCond.n (by assumption) ?_; (conv => whnf); refine SCond.n (by assumption) ?_; (conv => whnf); refine SCond.n (by assumption) ?_; (conv => whnf); refine SCond.n (by assumption) ?_; (conv => whnf); refine SCond.n (by assumption) ?_
  (conv => whnf); refine SPick.n (by assumption) ?_; (conv => whnf); refine Hid.ret ?_; (conv => whnf); rotate_left; refine SCond.n (by assumption) ?_; (conv => whnf); refine SCond.n (by assumption) ?_; (conv => whnf); refine SCond.n (by assumption) ?_; (conv => whnf); refine SPick.n (by assumption) ?_; (conv => whnf); refine SCond.n (by exact rfl) ?_; (conv => whnf)
  refine SCond.n (by exact rfl) ?_; (conv => whnf); refine SCond.n (by exact rfl) ?_; (conv => whnf); refine SCond.n (by exact rfl) ?_; (conv => whnf); refine SCond.n (by exact rfl) ?_; (conv => whnf); refine SCond.n (by exact rfl) ?_; (conv => whnf); refine SCond.n (by exact rfl) ?_; (conv => whnf); refine SPick.n (by exact rfl) ?_; (conv => whnf); refine Hid.ret ?_; (conv => whnf); rotate_left
  refine SCond.n (by assumption) ?_; (conv => whnf); refine SCond.n (by assumption) ?_; (conv => whnf); refine SCond.n (by assumption) ?_; (conv => whnf); refine SCond.n (by assumption) ?_; (conv => whnf); refine SPick.n (by assumption) ?_; (conv => whnf); refine SCond.n (by exact rfl) ?_; (conv => whnf); refine SCond.n (by exact rfl) ?_; (conv => whnf); refine SCond.n (by exact rfl) ?_
  (conv => whnf); refine SCond.n (by exact rfl) ?_; (conv => whnf); refine SPick.n (by exact rfl) ?_; (conv => whnf); refine SCond.n (by exact rfl) ?_; (conv => whnf); refine SCond.n (by exact rfl) ?_; (conv => whnf); refine SCond.n (by exact rfl) ?_; (conv => whnf); refine SCond.n (by exact rfl) ?_; (conv => whnf); refine SCond.n (by exact rfl) ?_; (conv => whnf); refine SCond.n (by exact rfl) ?_
  (conv => whnf); refine SCond.n (by exact rfl) ?_; (conv => whnf); refine SPick.n (by exact rfl) ?_; (conv => whnf); refine Hid.ret ?_; (conv => whnf); rotate_left
  all_goals
    refine .p (.refl _) (congrArg AV.bool ?_); clear hat hm hl hck
    rw [msgT, Bool.eq_iff_iff]
    simp only [btw]
    first
      | (simp_all; done)
      | (simp_all; omega)
theorem refFields_any (w0 : Base) (x : Sub) (next : Int) (hx : Small x) : CallP Tryz.prog w0 46 [eSub x, .int .i64 next] (.bool (fieldsT x next)) := by
  have h1 := hx.name
  have h2 := hx.topic
  have h3 := hx.want
  refine CallP.h Ty.tok Ty.mixed Tryz.func46 rfl Tryz.ntmps46 rfl (by simp) (by decide +kernel) fun σ => ?_
  (conv => whnf); refine Hid.seq ?_; refine Hid.reg ?_; (conv => whnf); refine SBox.f ?_; (conv => whnf); refine Hid.seq ?_; refine Hid.seq ?_; refine Hid.reg ?_; (conv => whnf); refine SCond.mk (fun hc => ?_) (fun hc => ?_); (conv => whnf); rotate_left; (conv => whnf)
  rotate_right
  refine SCond.y (by assumption) ?_; (conv => whnf); refine SCond.y (by assumption) ?_; (conv => whnf); refine SPick.y (by assumption) ?_; (conv => whnf); refine SCond.y (by exact rfl) ?_; (conv => whnf); refine SCond.y (by exact rfl) ?_; (conv => whnf); refine SCond.y (by exact rfl) ?_; (conv => whnf); refine SCond.y (by exact rfl) ?_; (conv => whnf); refine SPick.y (by exact rfl) ?_
  (conv => whnf); refine SCond.y (by exact rfl) ?_; (conv => whnf); refine SCond.y (by exact rfl) ?_; (conv => whnf); refine SCond.y (by exact rfl) ?_; (conv => whnf); refine SCond.y (by exact rfl) ?_; (conv => whnf); refine SPick.y (by exact rfl) ?_; (conv => whnf); refine SCond.y (by exact rfl) ?_; (conv => whnf); refine SCond.y (by exact rfl) ?_; (conv => whnf); refine SCond.y (by exact rfl) ?_
  (conv => whnf); refine SCond.y (by exact rfl) ?_; (conv => whnf); refine SPick.y (by exact rfl) ?_; (conv => whnf); refine Hid.cond rfl ?_; refine SIf.y Ty.mixed (by exact rfl) ?_; refine Xc_h ?_; (conv => whnf); refine Hid.seq ?_; refine Hid.reg ?_; (conv => whnf); refine Hid.ret ?_; (conv => whnf); rotate_left; refine SCond.n (by assumption) ?_; (conv => whnf); refine SCond.n (by assumption) ?_
  (conv => whnf); refine SPick.n (by assumption) ?_; (conv => whnf); refine SCond.mk (fun hc => ?_) (fun hc => ?_); (conv => whnf); rotate_left; (conv => whnf)
  rotate_right
  refine SCond.y (by assumption) ?_; (conv => whnf); refine SCond.y (by assumption) ?_; (conv => whnf); refine SCond.y (by assumption) ?_; (conv => whnf); refine SPick.y (by assumption) ?_; (conv => whnf); refine SCond.y (by exact rfl) ?_; (conv => whnf); refine SCond.y (by exact rfl) ?_; (conv => whnf); refine SCond.y (by exact rfl) ?_; (conv => whnf); refine SCond.y (by exact rfl) ?_
  (conv => whnf); refine SPick.y (by exact rfl) ?_; (conv => whnf); refine SCond.y (by exact rfl) ?_; (conv => whnf); refine SCond.y (by exact rfl) ?_; (conv => whnf); refine SCond.y (by exact rfl) ?_; (conv => whnf); refine SCond.y (by exact rfl) ?_; (conv => whnf); refine SPick.y (by exact rfl) ?_; (conv => whnf); refine Hid.cond rfl ?_; refine SIf.y Ty.mixed (by exact rfl) ?_; refine Xc_h ?_
  (conv => whnf); refine Hid.seq ?_; refine Hid.reg ?_; (conv => whnf); refine Hid.ret ?_; (conv => whnf); rotate_left; refine SCond.n (by assumption) ?_; (conv => whnf); refine SCond.n (by assumption) ?_; (conv => whnf); refine SCall.p (by exact refName_any w0 _ h1) ?_; (conv => whnf); refine SCond.n (by assumption) ?_; (conv => whnf); refine SPick.n (by assumption) ?_; (conv => whnf)
  refine SCond.mk (fun hc => ?_) (fun hc => ?_); (conv => whnf); rotate_left; (conv => whnf)
  rotate_right
  refine SCond.y (by assumption) ?_; (conv => whnf); refine SCond.y (by assumption) ?_; (conv => whnf); refine SCond.y (by assumption) ?_; (conv => whnf); refine SPick.y (by assumption) ?_; (conv => whnf); refine SCond.y (by exact rfl) ?_; (conv => whnf); refine SCond.y (by exact rfl) ?_; (conv => whnf); refine SCond.y (by exact rfl) ?_; (conv => whnf); refine SCond.y (by exact rfl) ?_
  (conv => whnf); refine SPick.y (by exact rfl) ?_; (conv => whnf); refine Hid.cond rfl ?_; refine SIf.y Ty.mixed (by exact rfl) ?_; refine Xc_h ?_; (conv => whnf); refine Hid.seq ?_; refine Hid.reg ?_; (conv => whnf); refine Hid.ret ?_; (conv => whnf); rotate_left; refine SCond.n (by assumption) ?_; (conv => whnf); refine SCond.n (by assumption) ?_; (conv => whnf)
  refine SCall.p (by exact refPattern_any w0 _ h2) ?_; (conv => whnf); refine SCond.n (by assumption) ?_; (conv => whnf); refine SPick.n (by assumption) ?_; (conv => whnf); refine SCond.mk (fun hc => ?_) (fun hc => ?_); (conv => whnf); rotate_left; (conv => whnf)
  rotate_right
  refine SCond.y (by assumption) ?_; (conv => whnf); refine SCond.y (by assumption) ?_; (conv => whnf); refine SCond.y (by assumption) ?_; (conv => whnf); refine SPick.y (by assumption) ?_; (conv => whnf); refine Hid.cond rfl ?_; refine SIf.y Ty.mixed (by exact rfl) ?_; refine Xc_h ?_; (conv => whnf); refine Hid.seq ?_; refine Hid.reg ?_; (conv => whnf); refine Hid.ret ?_; (conv => whnf)
  rotate_left; refine SCond.n (by assumption) ?_; (conv => whnf); refine SCond.n (by assumption) ?_; (conv => whnf); refine SCall.p (by exact refAttrs_any w0 _ h3) ?_; (conv => whnf); refine SCond.n (by assumption) ?_; (conv => whnf); refine SPick.n (by assumption) ?_; (conv => whnf); refine Hid.cond rfl ?_; refine SIf.x Ty.mixed (fun hc => ?_) (fun hc => ?_); refine Xc_h ?_; (conv => whnf)
  refine Hid.seq ?_; refine Hid.reg ?_; (conv => whnf); refine Hid.ret ?_; (conv => whnf); rotate_left; refine Xc_h ?_; (conv => whnf); refine Hid.skip ?_; (conv => whnf); refine Hid.seq ?_; refine Hid.reg ?_; (conv => whnf)
  rotate_right
  rotate_left; refine SCond.mk (fun hc => ?_) (fun hc => ?_); (conv => whnf); rotate_left; (conv => whnf)
  rotate_right
  refine SCond.y (by assumption) ?_; (conv => whnf); refine SCond.y (by assumption) ?_; (conv => whnf); refine SPick.y (by assumption) ?_; (conv => whnf); refine SCond.mk (fun hc => ?_) (fun hc => ?_); (conv => whnf); rotate_left; (conv => whnf)
  rotate_right
  refine SCond.y (by assumption) ?_; (conv => whnf); refine SCond.y (by assumption) ?_; (conv => whnf); refine SPick.y (by assumption) ?_; (conv => whnf); refine SCond.mk (fun hc => ?_) (fun hc => ?_); (conv => whnf); rotate_left; (conv => whnf)
  rotate_right
  refine SCond.y (by assumption) ?_; (conv => whnf); refine SCond.y (by assumption) ?_; (conv => whnf); refine SPick.y (by assumption) ?_; (conv => whnf); refine SCond.mk (fun hc => ?_) (fun hc => ?_); (conv => whnf); rotate_left; (conv => whnf)
  rotate_right
  refine SCond.y (by assumption) ?_; (conv => whnf); refine SCond.y (by assumption) ?_; (conv => whnf); refine SPick.y (by assumption) ?_; (conv => whnf); refine SCond.mk (fun hc => ?_) (fun hc => ?_); (conv => whnf); rotate_left; (conv => whnf)
  rotate_right
  refine SCond.y (by assumption) ?_; (conv => whnf); refine SCond.y (by assumption) ?_; (conv => whnf); refine SCond.y (by assumption) ?_; (conv => whnf); refine SPick.y (by assumption) ?_; (conv => whnf); refine SCond.mk (fun hc => ?_) (fun hc => ?_); (conv => whnf); rotate_left; (conv => whnf)
  rotate_right
  refine SCond.y (by assumption) ?_; (conv => whnf); refine SCond.y (by assumption) ?_; (conv => whnf); refine SCond.y (by assumption) ?_; (conv => whnf); refine SPick.y (by assumption) ?_; (conv => whnf); refine SCond.mk (fun hc => ?_) (fun hc => ?_); (conv => whnf); rotate_left; (conv => whnf)
  rotate_right
  refine SCond.y (by assumption) ?_; (conv => whnf); refine SCond.y (by assumption) ?_; (conv => whnf); refine SCond.y (by assumption) ?_; (conv => whnf); refine SPick.y (by assumption) ?_; (conv => whnf); refine SCond.mk (fun hc => ?_) (fun hc => ?_); (conv => whnf); rotate_left; (conv => whnf)
  rotate_right
  refine SCond.y (by assumption) ?_; (conv => whnf); refine SCond.y (by assumption) ?_; (conv => whnf); refine SCond.y (by assumption) ?_; (conv => whnf); refine SPick.y (by assumption) ?_; (conv => whnf); refine Hid.ret ?_; (conv => whnf); rotate_left; refine SCond.n (by assumption) ?_; (conv => whnf); refine SCond.n (by assumption) ?_; (conv => whnf); refine SCond.n (by assumption) ?_
  (conv => whnf); refine SPick.n (by assumption) ?_; (conv => whnf); refine Hid.ret ?_; (conv => whnf); rotate_left; refine SCond.n (by assumption) ?_; (conv => whnf); refine SCond.n (by assumption) ?_; (conv => whnf); refine SCond.n (by assumption) ?_; (conv => whnf); refine SPick.n (by assumption) ?_; (conv => whnf); refine SCond.n (by exact rfl) ?_; (conv => whnf)
  refine SCond.n (by exact rfl) ?_; (conv => whnf); refine SCond.n (by exact rfl) ?_; (conv => whnf); refine SCond.n (by exact rfl) ?_; (conv => whnf); refine SPick.n (by exact rfl) ?_; (conv => whnf); refine Hid.ret ?_; (conv => whnf); rotate_left; refine SCond.n (by assumption) ?_; (conv => whnf); refine SCond.n (by assumption) ?_; (conv => whnf); refine SCond.n (by assumption) ?_; (conv => whnf)
  refine SPick.n (by assumption) ?_; (conv => whnf); refine SCond.n (by exact rfl) ?_; (conv => whnf); refine SCond.n (by exact rfl) ?_; (conv => whnf); refine SCond.n (by exact rfl) ?_; (conv => whnf); refine SCond.n (by exact rfl) ?_; (conv => whnf); refine SPick.n (by exact rfl) ?_; (conv => whnf); refine SCond.n (by exact rfl) ?_; (conv => whnf); refine SCond.n (by exact rfl) ?_; (conv => whnf)
  refine SCond.n (by exact rfl) ?_; (conv => whnf); refine SCond.n (by exact rfl) ?_; (conv => whnf); refine SPick.n (by exact rfl) ?_; (conv => whnf); refine Hid.ret ?_; (conv => whnf); rotate_left; refine SCond.n (by assumption) ?_; (conv => whnf); refine SCond.n (by assumption) ?_; (conv => whnf); refine SCond.n (by assumption) ?_; (conv => whnf); refine SPick.n (by assumption) ?_
  (conv => whnf); refine SCond.n (by exact rfl) ?_; (conv => whnf); refine SCond.n (by exact rfl) ?_; (conv => whnf); refine SCond.n (by exact rfl) ?_; (conv => whnf); refine SCond.n (by exact rfl) ?_; (conv => whnf); refine SPick.n (by exact rfl) ?_; (conv => whnf); refine SCond.n (by exact rfl) ?_; (conv => whnf); refine SCond.n (by exact rfl) ?_; (conv => whnf); refine SCond.n (by exact rfl) ?_
  (conv => whnf); refine SCond.n (by exact rfl) ?_; (conv => whnf); refine SPick.n (by exact rfl) ?_; (conv => whnf); refine SCond.n (by exact rfl) ?_; (conv => whnf); refine SCond.n (by exact rfl) ?_; (conv => whnf); refine SCond.n (by exact rfl) ?_; (conv => whnf); refine SCond.n (by exact rfl) ?_; (conv => whnf); refine SPick.n (by exact rfl) ?_; (conv => whnf); refine Hid.ret ?_; (conv => whnf)
  rotate_left; refine SCond.n (by assumption) ?_; (conv => whnf); refine SCond.n (by assumption) ?_; (conv => whnf); refine SPick.n (by assumption) ?_; (conv => whnf); refine SCond.n (by exact rfl) ?_; (conv => whnf); refine SCond.n (by exact rfl) ?_; (conv => whnf); refine SCond.n (by exact rfl) ?_; (conv => whnf); refine SCond.n (by exact rfl) ?_; (conv => whnf); refine SPick.n (by exact rfl) ?_
  (conv => whnf); refine SCond.n (by exact rfl) ?_; (conv => whnf); refine SCond.n (by exact rfl) ?_; (conv => whnf); refine SCond.n (by exact rfl) ?_; (conv => whnf); refine SCond.n (by exact rfl) ?_; (conv => whnf); refine SPick.n (by exact rfl) ?_; (conv => whnf); refine SCond.n (by exact rfl) ?_; (conv => whnf); refine SCond.n (by exact rfl) ?_; (conv => whnf); refine SCond.n (by exact rfl) ?_
  (conv => whnf); refine SCond.n (by exact rfl) ?_; (conv => whnf); refine SPick.n (by exact rfl) ?_; (conv => whnf); refine SCond.n (by exact rfl) ?_; (conv => whnf); refine SCond.n (by exact rfl) ?_; (conv => whnf); refine SCond.n (by exact rfl) ?_; (conv => whnf); refine SCond.n (by exact rfl) ?_; (conv => whnf); refine SPick.n (by exact rfl) ?_; (conv => whnf); refine Hid.ret ?_; (conv => whnf)
  rotate_left; refine SCond.n (by assumption) ?_; (conv => whnf); refine SCond.n (by assumption) ?_; (conv => whnf); refine SPick.n (by assumption) ?_; (conv => whnf); refine SCond.n (by exact rfl) ?_; (conv => whnf); refine SCond.n (by exact rfl) ?_; (conv => whnf); refine SCond.n (by exact rfl) ?_; (conv => whnf); refine SPick.n (by exact rfl) ?_; (conv => whnf); refine SCond.n (by exact rfl) ?_
  (conv => whnf); refine SCond.n (by exact rfl) ?_; (conv => whnf); refine SCond.n (by exact rfl) ?_; (conv => whnf); refine SCond.n (by exact rfl) ?_; (conv => whnf); refine SPick.n (by exact rfl) ?_; (conv => whnf); refine SCond.n (by exact rfl) ?_; (conv => whnf); refine SCond.n (by exact rfl) ?_; (conv => whnf); refine SCond.n (by exact rfl) ?_; (conv => whnf); refine SCond.n (by exact rfl) ?_
  (conv => whnf); refine SPick.n (by exact rfl) ?_; (conv => whnf); refine SCond.n (by exact rfl) ?_; (conv => whnf); refine SCond.n (by exact rfl) ?_; (conv => whnf); refine SCond.n (by exact rfl) ?_; (conv => whnf); refine SCond.n (by exact rfl) ?_; (conv => whnf); refine SPick.n (by exact rfl) ?_; (conv => whnf); refine SCond.n (by exact rfl) ?_; (conv => whnf); refine SCond.n (by exact rfl) ?_
  (conv => whnf); refine SCond.n (by exact rfl) ?_; (conv => whnf); refine SCond.n (by exact rfl) ?_; (conv => whnf); refine SPick.n (by exact rfl) ?_; (conv => whnf); refine Hid.ret ?_; (conv => whnf); rotate_left; refine SCond.n (by assumption) ?_; (conv => whnf); refine SCond.n (by assumption) ?_; (conv => whnf); refine SPick.n (by assumption) ?_; (conv => whnf); refine SCond.n (by exact rfl) ?_
  (conv => whnf); refine SCond.n (by exact rfl) ?_; (conv => whnf); refine SCond.n (by exact rfl) ?_; (conv => whnf); refine SPick.n (by exact rfl) ?_; (conv => whnf); refine SCond.n (by exact rfl) ?_; (conv => whnf); refine SCond.n (by exact rfl) ?_; (conv => whnf); refine SCond.n (by exact rfl) ?_; (conv => whnf); refine SPick.n (by exact rfl) ?_; (conv => whnf); refine SCond.n (by exact rfl) ?_
  (conv => whnf); refine SCond.n (by exact rfl) ?_; (conv => whnf); refine SCond.n (by exact rfl) ?_; (conv => whnf); refine SCond.n (by exact rfl) ?_; (conv => whnf); refine SPick.n (by exact rfl) ?_; (conv => whnf); refine SCond.n (by exact rfl) ?_; (conv => whnf); refine SCond.n (by exact rfl) ?_; (conv => whnf); refine SCond.n (by exact rfl) ?_; (conv => whnf); refine SCond.n (by exact rfl) ?_
  (conv => whnf); refine SPick.n (by exact rfl) ?_; (conv => whnf); refine SCond.n (by exact rfl) ?_; (conv => whnf); refine SCond.n (by exact rfl) ?_; (conv => whnf); refine SCond.n (by exact rfl) ?_; (conv => whnf); refine SCond.n (by exact rfl) ?_; (conv => whnf); refine SPick.n (by exact rfl) ?_; (conv => whnf); refine SCond.n (by exact rfl) ?_; (conv => whnf); refine SCond.n (by exact rfl) ?_
  (conv => whnf); refine SCond.n (by exact rfl) ?_; (conv => whnf); refine SCond.n (by exact rfl) ?_; (conv => whnf); refine SPick.n (by exact rfl) ?_; (conv => whnf); refine Hid.ret ?_; (conv => whnf); rotate_left; refine SCond.n (by assumption) ?_; (conv => whnf); refine SCond.n (by assumption) ?_; (conv => whnf); refine SPick.n (by assumption) ?_; (conv => whnf); refine SCond.n (by exact rfl) ?_
  (conv => whnf); refine SCond.n (by exact rfl) ?_; (conv => whnf); refine SCond.n (by exact rfl) ?_; (conv => whnf); refine SPick.n (by exact rfl) ?_; (conv => whnf); refine SCond.n (by exact rfl) ?_; (conv => whnf); refine SCond.n (by exact rfl) ?_; (conv => whnf); refine SCond.n (by exact rfl) ?_; (conv => whnf); refine SPick.n (by exact rfl) ?_; (conv => whnf); refine SCond.n (by exact rfl) ?_
  (conv => whnf); refine SCond.n (by exact rfl) ?_; (conv => whnf); refine SCond.n (by exact rfl) ?_; (conv => whnf); refine SPick.n (by exact rfl) ?_; (conv => whnf); refine SCond.n (by exact rfl) ?_; (conv => whnf); refine SCond.n (by exact rfl) ?_; (conv => whnf); refine SCond.n (by exact rfl) ?_; (conv => whnf); refine SCond.n (by exact rfl) ?_; (conv => whnf); refine SPick.n (by exact rfl) ?_
  (conv => whnf); refine SCond.n (by exact rfl) ?_; (conv => whnf); refine SCond.n (by exact rfl) ?_; (conv => whnf); refine SCond.n (by exact rfl) ?_; (conv => whnf); refine SCond.n (by exact rfl) ?_; (conv => whnf); refine SPick.n (by exact rfl) ?_; (conv => whnf); refine SCond.n (by exact rfl) ?_; (conv => whnf); refine SCond.n (by exact rfl) ?_; (conv => whnf); refine SCond.n (by exact rfl) ?_
  (conv => whnf); refine SCond.n (by exact rfl) ?_; (conv => whnf); refine SPick.n (by exact rfl) ?_; (conv => whnf); refine SCond.n (by exact rfl) ?_; (conv => whnf); refine SCond.n (by exact rfl) ?_; (conv => whnf); refine SCond.n (by exact rfl) ?_; (conv => whnf); refine SCond.n (by exact rfl) ?_; (conv => whnf); refine SPick.n (by exact rfl) ?_; (conv => whnf); refine Hid.ret ?_; (conv => whnf)
  rotate_left
  all_goals
    refine .p (.refl _) (congrArg AV.bool ?_); clear h1 h2 h3 hx
    rw [fieldsT, Bool.eq_iff_iff]
    simp only [btw]
    first
      | (simp_all; done)
      | (simp_all; omega)
theorem refGood_any (w0 : Base) (x : Sub) (clock next : Int) (hx : Small x) (hn : next ≤ 9223372036854775807) (hck : -4611686018427387904 ≤ clock ∧ clock ≤ 4611686018427387904) : CallP Tryz.prog w0 26 [eSub x, .int .i64 clock, .int .i64 next] (.bool (goodT x clock next)) := by
  refine CallP.h Ty.tok Ty.mixed Tryz.func26 rfl Tryz.ntmps26 rfl (by simp) (by decide +kernel) fun σ => ?_
  (conv => whnf); refine Hid.seq ?_; refine Hid.reg ?_; (conv => whnf); refine SBox.f ?_; (conv => whnf); refine Hid.seq ?_; refine Hid.seq ?_; refine Hid.reg ?_; (conv => whnf); refine SCall.p (by exact refFields_any w0 x next hx) ?_; (conv => whnf); refine Hid.cond rfl ?_
  cases hf : fieldsT x next with
  | false =>
    refine SIf.y Ty.mixed rfl ?_; refine Xc_h ?_; (conv => whnf); refine Hid.seq ?_; refine Hid.reg ?_; (conv => whnf); refine Hid.ret ?_; (conv => whnf)
    skip
    exact .p (.refl _) (by rw [goodT, hf]; rfl)
  | true =>
    refine SIf.n Ty.mixed rfl ?_
    obtain ⟨hl, hm, hf0, hfn⟩ := fieldsT_of hf
    refine Xc_h ?_; (conv => whnf); refine Hid.skip ?_; (conv => whnf); refine Hid.seq ?_; refine Hid.reg ?_; (conv => whnf); refine Hid.seq ?_; refine Hid.seq ?_; refine Hid.reg ?_; (conv => whnf); refine Hid.block ?_; refine Hid.loop ?_
    skip
    have hln : (x.acks.map (AV.int .i64)).length = x.acks.length := by simp
    have hlq : (x.queue.map eMsg).length = x.queue.length := by simp
    refine SLoop.by Ty.mixed (fun ((i, last) : Nat × Int) => x.acks.length - i) (fun (i, last) => [(1, .int .i64 clock), (2, .int .i64 next), (3, .vp (eSub x)), (7, .int .i64 last), (8, .int .i64 i)]) (fun _ => []) (fun (i, last) τ => i ≤ x.acks.length ∧ (0 ≤ last ∧ last < next) ∧ goodA next last (x.acks.drop i) = goodA next x.floor x.acks ∧ τ = σ) (0, x.floor) ⟨by repeat (first | exact trivial | refine ⟨by first | trivial | exact Weak.refl _ | exact Weak.tok _ _ _ | exact Weak.of_eq (congrArg (AV.int _) (by omega)) | exact Weak.of_eq (congrArg AV.bool (by fail)) | exact Weak.nils _ _ (.inr rfl), ?_⟩), .none _, Nat.zero_le _, ⟨hf0, hfn⟩, rfl, rfl⟩ ?_
    have hna := hx.nacks
    have hnq := hx.nqueue
    rintro ⟨i, last⟩ τ ⟨hi, ⟨hl0, hlt2⟩, hd, rfl⟩
    by_cases hlt : i < x.acks.length
    · have ga : (x.acks.map (AV.int .i64))[i]? = some (.int .i64 x.acks[i]) := by simp [hlt]
      rw [List.drop_eq_getElem_cons hlt, goodA] at hd
      generalize x.acks[i] = n at *
      refine Xc_h ?_; (conv => whnf); refine Hid.seq ?_; refine Hid.seq ?_; refine Hid.reg ?_; (conv => whnf); refine Hid.cond rfl ?_
      skip
      refine SIf.y Ty.mixed (decide_eq_true (by rw [hln]; omega)) ?_; refine Xc_h ?_; (conv => whnf); refine Hid.skip ?_; (conv => whnf); refine Hid.seq ?_; refine Hid.seq ?_; refine Hid.seq ?_; refine Hid.reg ?_; (conv => whnf)
      refine ⟨_, ⟨by first | omega | (rw [hln]; omega) | fail, by exact ga⟩, ?_⟩
      (conv => whnf); refine SCond.mk (fun hc => ?_) (fun hc => ?_); (conv => whnf); rotate_left; (conv => whnf)
      rotate_right
      refine SCond.y (by assumption) ?_; (conv => whnf); refine SCond.y (by assumption) ?_; (conv => whnf); refine SCond.y (by assumption) ?_; (conv => whnf); refine SCond.y (by assumption) ?_; (conv => whnf); refine SCond.y (by assumption) ?_; (conv => whnf); refine SCond.y (by assumption) ?_; (conv => whnf); refine SPick.y (by assumption) ?_; (conv => whnf); refine Hid.cond rfl ?_
      refine SIf.y Ty.mixed (by exact rfl) ?_; refine Xc_h ?_; (conv => whnf); refine Hid.seq ?_; refine Hid.reg ?_; (conv => whnf); refine Hid.ret ?_; (conv => whnf); rotate_left; refine SCond.n (by assumption) ?_; (conv => whnf); refine SCond.n (by assumption) ?_; (conv => whnf); refine SCond.n (by assumption) ?_; (conv => whnf)
      refine ⟨_, ⟨by first | omega | (rw [hln]; omega) | fail, by exact ga⟩, ?_⟩
      (conv => whnf); refine SCond.n (by assumption) ?_; (conv => whnf); refine SCond.n (by assumption) ?_; (conv => whnf); refine SCond.n (by assumption) ?_; (conv => whnf); refine SPick.n (by assumption) ?_; (conv => whnf); refine Hid.cond rfl ?_; refine SIf.x Ty.mixed (fun hc => ?_) (fun hc => ?_); refine Xc_h ?_; (conv => whnf); refine Hid.seq ?_; refine Hid.reg ?_; (conv => whnf)
      refine Hid.ret ?_; (conv => whnf); rotate_left; refine Xc_h ?_; (conv => whnf); refine Hid.skip ?_; (conv => whnf); refine Hid.reg ?_; (conv => whnf)
      rotate_right
      rotate_left
      refine ⟨_, ⟨by first | omega | (rw [hln]; omega) | fail, by exact ga⟩, ?_⟩
      (conv => whnf); refine Hid.reg ?_; (conv => whnf); refine ⟨_, IntWalk.i64_in _ (by omega), ?_⟩; (conv => whnf); rotate_left
      all_goals simp only [decide_eq_true_eq, decide_eq_false_iff_not] at *
      all_goals first
        | (have hb : btw n (last + 1) (next - 1) = false := by
             rw [btw, Bool.and_eq_false_iff, decide_eq_false_iff_not, decide_eq_false_iff_not]; omega
           rw [hb, Bool.false_and] at hd
           exact .p (.refl _) (by rw [goodT, ← hd]; simp))
        | (have hb : btw n (last + 1) (next - 1) = true := by
             rw [btw, Bool.and_eq_true, decide_eq_true_eq, decide_eq_true_eq]; omega
           rw [hb, Bool.true_and] at hd
           exact ⟨(i + 1, n), by show x.acks.length - (i + 1) < x.acks.length - i; omega, by repeat (first | exact trivial | refine ⟨by first | trivial | exact Weak.refl _ | exact Weak.tok _ _ _ | exact Weak.of_eq (congrArg (AV.int _) (by omega)) | exact Weak.of_eq (congrArg AV.bool (by fail)) | exact Weak.nils _ _ (.inr rfl), ?_⟩), .none _, hlt, ⟨by omega, by omega⟩, hd, rfl⟩)
    · have hge : i = x.acks.length := by omega
      subst hge
      rw [List.drop_length] at hd
      have hA : goodA next x.floor x.acks = true := hd.symm
      clear hd hi hl0 hlt2; refine Xc_h ?_; (conv => whnf); refine Hid.seq ?_; refine Hid.seq ?_; refine Hid.reg ?_; (conv => whnf); refine Hid.cond rfl ?_
      skip
      refine SIf.n Ty.mixed (decide_eq_false (by rw [hln]; omega)) ?_; refine Xc_h ?_; (conv => whnf); refine Hid.exit ?_; (conv => whnf); refine Hid.seq ?_; refine Hid.reg ?_; (conv => whnf); refine Hid.seq ?_; refine Hid.seq ?_; refine Hid.reg ?_; (conv => whnf); refine Hid.block ?_; refine Hid.loop ?_
      skip
      refine SLoop.by Ty.mixed (fun ((i, last) : Nat × Int) => x.queue.length - i) (fun (i, last) => [(1, .int .i64 clock), (2, .int .i64 next), (3, .vp (eSub x)), (7, .int .i64 last), (9, .int .i64 i)]) (fun _ => []) (fun (i, last) s => i ≤ x.queue.length ∧ (0 ≤ last ∧ last < next) ∧ goodQ x.acks x.most x.lease clock next last (x.queue.drop i) = goodQ x.acks x.most x.lease clock next x.floor x.queue ∧ St.Le τ s) (0, x.floor) ⟨by repeat (first | exact trivial | refine ⟨by first | trivial | exact Weak.refl _ | exact Weak.tok _ _ _ | exact Weak.of_eq (congrArg (AV.int _) (by omega)) | exact Weak.of_eq (congrArg AV.bool (by fail)) | exact Weak.nils _ _ (.inr rfl), ?_⟩), .none _, Nat.zero_le _, ⟨hf0, hfn⟩, rfl, .refl _⟩ ?_
      rintro ⟨i, last⟩ s ⟨hi, ⟨hl0, hlt2⟩, hd, hle⟩
      by_cases hlt : i < x.queue.length
      · have ga : (x.queue.map eMsg)[i]? = some (eMsg x.queue[i]) := by simp [hlt]
        have hat := hx.attr _ (List.getElem_mem hlt)
        rw [List.drop_eq_getElem_cons hlt, goodQ] at hd
        generalize x.queue[i] = m at *
        refine Xc_h ?_; (conv => whnf); refine Hid.seq ?_; refine Hid.seq ?_; refine Hid.reg ?_; (conv => whnf); refine Hid.cond rfl ?_
        skip
        refine SIf.y Ty.mixed (decide_eq_true (by rw [hlq]; omega)) ?_; refine Xc_h ?_; (conv => whnf); refine Hid.skip ?_; (conv => whnf); refine Hid.seq ?_; refine Hid.seq ?_; refine Hid.reg ?_; (conv => whnf)
        refine ⟨_, ⟨by first | omega | (rw [hlq]; omega) | fail, by exact ga⟩, ?_⟩
        (conv => whnf); intro b10 hb10; (conv => whnf); refine SStore.on 0 rfl ?_; (conv => whnf); refine Hid.seq ?_; refine Hid.seq ?_; refine Hid.reg ?_; (conv => whnf); refine SLoad.on 0 rfl ?_; (conv => whnf); refine SCond.mk (fun hc => ?_) (fun hc => ?_); (conv => whnf); rotate_left; (conv => whnf)
        rotate_right
        refine SCond.y (by assumption) ?_; (conv => whnf); refine SCond.y (by assumption) ?_; (conv => whnf); refine SCond.y (by assumption) ?_; (conv => whnf); refine SPick.y (by assumption) ?_; (conv => whnf); refine SCond.y (by exact rfl) ?_; (conv => whnf); refine SCond.y (by exact rfl) ?_; (conv => whnf); refine SCond.y (by exact rfl) ?_; (conv => whnf); refine SCond.y (by exact rfl) ?_
        (conv => whnf); refine SCond.y (by exact rfl) ?_; (conv => whnf); refine SPick.y (by exact rfl) ?_; (conv => whnf); refine SCond.y (by exact rfl) ?_; (conv => whnf); refine SCond.y (by exact rfl) ?_; (conv => whnf); refine SCond.y (by exact rfl) ?_; (conv => whnf); refine SCond.y (by exact rfl) ?_; (conv => whnf); refine SCond.y (by exact rfl) ?_; (conv => whnf)
        refine SPick.y (by exact rfl) ?_; (conv => whnf); refine Hid.cond rfl ?_; refine SIf.y Ty.mixed (by exact rfl) ?_; refine Xc_h ?_; (conv => whnf); refine Hid.seq ?_; refine Hid.reg ?_; (conv => whnf); refine Hid.ret ?_; (conv => whnf); rotate_left; refine SCond.n (by assumption) ?_; (conv => whnf); refine SLoad.on 0 rfl ?_; (conv => whnf); refine SCond.n (by assumption) ?_; (conv => whnf)
        refine SCond.n (by assumption) ?_; (conv => whnf); refine SPick.n (by assumption) ?_; (conv => whnf); refine SCond.mk (fun hc => ?_) (fun hc => ?_); (conv => whnf); rotate_left; (conv => whnf)
        rotate_right
        refine SCond.y (by assumption) ?_; (conv => whnf); refine SCond.y (by assumption) ?_; (conv => whnf); refine SCond.y (by assumption) ?_; (conv => whnf); refine SCond.y (by assumption) ?_; (conv => whnf); refine SPick.y (by assumption) ?_; (conv => whnf); refine SCond.y (by exact rfl) ?_; (conv => whnf); refine SCond.y (by exact rfl) ?_; (conv => whnf); refine SCond.y (by exact rfl) ?_
        (conv => whnf); refine SCond.y (by exact rfl) ?_; (conv => whnf); refine SCond.y (by exact rfl) ?_; (conv => whnf); refine SPick.y (by exact rfl) ?_; (conv => whnf); refine Hid.cond rfl ?_; refine SIf.y Ty.mixed (by exact rfl) ?_; refine Xc_h ?_; (conv => whnf); refine Hid.seq ?_; refine Hid.reg ?_; (conv => whnf); refine Hid.ret ?_; (conv => whnf); rotate_left
        refine SCond.n (by assumption) ?_; (conv => whnf); refine SCond.n (by assumption) ?_; (conv => whnf); refine SCond.n (by assumption) ?_; (conv => whnf); refine SLoad.on 0 rfl ?_; (conv => whnf); refine SCond.n (by assumption) ?_; (conv => whnf); refine SCall.p (by exact acked_any w0 _ _ _ hna) ?_; (conv => whnf); refine SPick.n (by assumption) ?_; (conv => whnf)
        refine SCond.mk (fun hc => ?_) (fun hc => ?_); (conv => whnf); rotate_left; (conv => whnf)
        rotate_right
        refine SCond.y (by assumption) ?_; (conv => whnf); refine SCond.y (by assumption) ?_; (conv => whnf); refine SCond.y (by assumption) ?_; (conv => whnf); refine SCond.y (by assumption) ?_; (conv => whnf); refine SPick.y (by assumption) ?_; (conv => whnf); refine Hid.cond rfl ?_; refine SIf.y Ty.mixed (by exact rfl) ?_; refine Xc_h ?_; (conv => whnf); refine Hid.seq ?_; refine Hid.reg ?_
        (conv => whnf); refine Hid.ret ?_; (conv => whnf); rotate_left; refine SLoad.on 0 rfl ?_; (conv => whnf); refine SCond.n (by assumption) ?_; (conv => whnf); refine SCond.n (by assumption) ?_; (conv => whnf); refine SCond.n (by assumption) ?_; (conv => whnf); refine SCall.p (by exact refMessage_any w0 m x clock hat hm hl hck) ?_; (conv => whnf); refine SCond.n (by assumption) ?_
        (conv => whnf); refine SPick.n (by assumption) ?_; (conv => whnf); refine Hid.cond rfl ?_; refine SIf.x Ty.mixed (fun hc => ?_) (fun hc => ?_); refine Xc_h ?_; (conv => whnf); refine Hid.seq ?_; refine Hid.reg ?_; (conv => whnf); refine Hid.ret ?_; (conv => whnf); rotate_left; refine Xc_h ?_; (conv => whnf); refine Hid.skip ?_; (conv => whnf); refine Hid.reg ?_; (conv => whnf)
        rotate_right
        rotate_left; refine SLoad.on 0 rfl ?_; (conv => whnf); refine Hid.reg ?_; (conv => whnf); refine ⟨_, IntWalk.i64_in _ (by omega), ?_⟩; (conv => whnf); rotate_left
        all_goals
          simp only [decide_eq_true_eq, decide_eq_false_iff_not] at *
        all_goals
          generalize hq2 : decide (m.seq ∈ x.acks) = q2 at *
          generalize hq3 : msgT m x.most x.lease clock = q3 at *
          first
            | (have hb : (btw m.seq (last + 1) (next - 1) && (!q2 && q3)) = false := by
                 have h1 : btw m.seq (last + 1) (next - 1) = false ∨ q2 = true ∨ q3 = false := by
                   rw [btw, Bool.and_eq_false_iff, decide_eq_false_iff_not, decide_eq_false_iff_not]
                   first | (left; omega) | (right; left; simp_all; done) | (right; right; simp_all; done)
                 rcases h1 with h1 | h1 | h1 <;> simp [h1]
               rw [hb, Bool.false_and] at hd
               exact .p (le_new2 hle hb10) (by rw [goodT, ← hd]; simp))
            | (have hb1 : btw m.seq (last + 1) (next - 1) = true := by
                 rw [btw, Bool.and_eq_true, decide_eq_true_eq, decide_eq_true_eq]; omega
               have hb2 : (!q2 && q3) = true := by
                 clear hd hx hn hck hf hl hm hf0 hfn hna hnq hA hi hl0 hlt2 hle hlt ga hat hb10 hb1
                 cases q2 <;> cases q3 <;> simp_all
               rw [hb1, hb2, Bool.true_and, Bool.true_and] at hd
               exact ⟨(i + 1, m.seq), by show x.queue.length - (i + 1) < x.queue.length - i; omega, by repeat (first | exact trivial | refine ⟨by first | trivial | exact Weak.refl _ | exact Weak.tok _ _ _ | exact Weak.of_eq (congrArg (AV.int _) (by omega)) | exact Weak.of_eq (congrArg AV.bool (by fail)) | exact Weak.nils _ _ (.inr rfl), ?_⟩), .none _, hlt, ⟨by omega, by omega⟩, hd, le_new2 hle hb10⟩)
      · have hge : i = x.queue.length := by omega
        subst hge
        rw [List.drop_length] at hd
        refine Xc_h ?_; (conv => whnf); refine Hid.seq ?_; refine Hid.seq ?_; refine Hid.reg ?_; (conv => whnf); refine Hid.cond rfl ?_
        skip
        refine SIf.n Ty.mixed (decide_eq_false (by rw [hlq]; omega)) ?_; refine Xc_h ?_; (conv => whnf); refine Hid.exit ?_; (conv => whnf); refine Hid.seq ?_; refine Hid.reg ?_; (conv => whnf); refine Hid.ret ?_; (conv => whnf)
        skip
        exact .p hle (by rw [goodT, hf, hA, ← hd]; rfl)
end Go.Proofs.YtgliemhhnkhboaaGreatDoor
end
section
set_option linter.unusedVariables false
set_option linter.unusedSimpArgs false
set_option maxRecDepth 100000
set_option maxHeartbeats 4000000
namespace Go.Proofs.YtgliemhhnkhboaaGreatDoor
open Go.Al Go.RowKit
def goodS (ls clock next : Int) : Int → List Sub → Bool
  | _, [] => true
  | last, x :: l => (btw x.id (last + 1) ls && goodT x clock next) && goodS ls clock next x.id l
def frontS (s : Stt) : Bool := (btw s.clock 0 4503599627370496 && (btw s.next 1 1073741824 && btw s.last 0 1073741824)) && decide (s.subs.length ≤ 20)
def rightS (s : Stt) : Bool := frontS s && goodS s.last s.clock s.next 0 s.subs
theorem right_state (w0 : Base) (s : Stt) (hs : ∀ x ∈ s.subs, Small x) (hf : s.subs.length ≤ 977343669120) : CallP Tryz.prog w0 23 [eStt s] (.bool (rightS s)) := by
  obtain ⟨clock, next, last, subs⟩ := s
  dsimp only at hs hf ⊢
  refine CallP.h Ty.tok Ty.mixed Tryz.func23 rfl Tryz.ntmps23 rfl (by simp) (by decide +kernel) fun σ => ?_
  have hln : (subs.map eSub).length = subs.length := by simp
  (conv => whnf); refine Hid.seq ?_; refine Hid.reg ?_; (conv => whnf); refine SBox.f ?_; (conv => whnf); refine Hid.seq ?_; refine Hid.seq ?_; refine Hid.reg ?_; (conv => whnf); refine SCall.p (by exact between_any w0 _ _ _) ?_; (conv => whnf); refine SCond.mk (fun hc => ?_) (fun hc => ?_); (conv => whnf); rotate_left; (conv => whnf)
  rotate_right
  refine SCond.y (by assumption) ?_; (conv => whnf); refine SCond.y (by assumption) ?_; (conv => whnf); refine SCond.y (by assumption) ?_; (conv => whnf); refine SPick.y (by assumption) ?_; (conv => whnf); refine SCond.y (by exact rfl) ?_; (conv => whnf); refine SCond.y (by exact rfl) ?_; (conv => whnf); refine SCond.y (by exact rfl) ?_; (conv => whnf); refine SCond.y (by exact rfl) ?_
  (conv => whnf); refine SPick.y (by exact rfl) ?_; (conv => whnf); refine SCond.y (by exact rfl) ?_; (conv => whnf); refine SCond.y (by exact rfl) ?_; (conv => whnf); refine SCond.y (by exact rfl) ?_; (conv => whnf); refine SCond.y (by exact rfl) ?_; (conv => whnf); refine SPick.y (by exact rfl) ?_; (conv => whnf); refine Hid.cond rfl ?_; refine SIf.y Ty.mixed (by exact rfl) ?_; refine Xc_h ?_
  (conv => whnf); refine Hid.seq ?_; refine Hid.reg ?_; (conv => whnf); refine Hid.ret ?_; (conv => whnf); rotate_left; refine SCond.n (by assumption) ?_; (conv => whnf); refine SCond.n (by assumption) ?_; (conv => whnf); refine SCall.p (by exact between_any w0 _ _ _) ?_; (conv => whnf); refine SCond.n (by assumption) ?_; (conv => whnf); refine SPick.n (by assumption) ?_; (conv => whnf)
  refine SCond.mk (fun hc => ?_) (fun hc => ?_); (conv => whnf); rotate_left; (conv => whnf)
  rotate_right
  refine SCond.y (by assumption) ?_; (conv => whnf); refine SCond.y (by assumption) ?_; (conv => whnf); refine SCond.y (by assumption) ?_; (conv => whnf); refine SPick.y (by assumption) ?_; (conv => whnf); refine SCond.y (by exact rfl) ?_; (conv => whnf); refine SCond.y (by exact rfl) ?_; (conv => whnf); refine SCond.y (by exact rfl) ?_; (conv => whnf); refine SCond.y (by exact rfl) ?_
  (conv => whnf); refine SPick.y (by exact rfl) ?_; (conv => whnf); refine Hid.cond rfl ?_; refine SIf.y Ty.mixed (by exact rfl) ?_; refine Xc_h ?_; (conv => whnf); refine Hid.seq ?_; refine Hid.reg ?_; (conv => whnf); refine Hid.ret ?_; (conv => whnf); rotate_left; refine SCond.n (by assumption) ?_; (conv => whnf); refine SCond.n (by assumption) ?_; (conv => whnf)
  refine SCall.p (by exact between_any w0 _ _ _) ?_; (conv => whnf); refine SCond.n (by assumption) ?_; (conv => whnf); refine SPick.n (by assumption) ?_; (conv => whnf); refine SCond.mk (fun hc => ?_) (fun hc => ?_); (conv => whnf); rotate_left; (conv => whnf)
  rotate_right
  refine SCond.y (by assumption) ?_; (conv => whnf); refine SCond.y (by assumption) ?_; (conv => whnf); refine SCond.y (by assumption) ?_; (conv => whnf); refine SPick.y (by assumption) ?_; (conv => whnf); refine Hid.cond rfl ?_; refine SIf.y Ty.mixed (by exact rfl) ?_; refine Xc_h ?_; (conv => whnf); refine Hid.seq ?_; refine Hid.reg ?_; (conv => whnf); refine Hid.ret ?_; (conv => whnf)
  rotate_left; refine SCond.n (by assumption) ?_; (conv => whnf); refine SCond.n (by assumption) ?_; (conv => whnf); refine SCond.n (by assumption) ?_; (conv => whnf); refine SPick.n (by assumption) ?_; (conv => whnf); refine Hid.cond rfl ?_; refine SIf.x Ty.mixed (fun hc => ?_) (fun hc => ?_); refine Xc_h ?_; (conv => whnf); refine Hid.seq ?_; refine Hid.reg ?_; (conv => whnf); refine Hid.ret ?_
  (conv => whnf); rotate_left; refine Xc_h ?_; (conv => whnf); refine Hid.skip ?_; (conv => whnf); refine Hid.seq ?_; refine Hid.reg ?_; (conv => whnf); refine Hid.seq ?_; refine Hid.seq ?_; refine Hid.reg ?_; (conv => whnf); refine Hid.block ?_; refine Hid.loop ?_
  rotate_right
  rotate_left; rotate_left
  all_goals first
    | (refine .p (.refl _) (congrArg AV.bool ?_)
       have h : frontS ⟨clock, next, last, subs⟩ = false := by
         rw [frontS, btw, btw, btw]
         simp only [List.length_map] at *
         simp_all
         try omega
       rw [rightS, h, Bool.false_and])
    | skip
  have hfr : frontS ⟨clock, next, last, subs⟩ = true := by
    rw [frontS, btw, btw, btw]
    simp only [List.length_map] at *
    simp_all
    try omega
  have hbd : (0 ≤ clock ∧ clock ≤ 4503599627370496) ∧ (1 ≤ next ∧ next ≤ 1073741824) ∧ 0 ≤ last ∧ last ≤ 1073741824 := by
    simp only [frontS, btw, Bool.and_eq_true, decide_eq_true_eq] at hfr
    omega
  refine SLoop.by Ty.mixed (fun ((i, lst) : Nat × Int) => subs.length - i) (fun (i, lst) => [(1, .vp (eStt ⟨clock, next, last, subs⟩)), (3, .int .i64 lst), (29, eSubs subs), (30, .int .i64 subs.length), (31, .int .i64 i)]) (fun _ => []) (fun (i, lst) τ => i ≤ subs.length ∧ (0 ≤ lst ∧ lst ≤ 1073741824) ∧ goodS last clock next lst (subs.drop i) = goodS last clock next 0 subs ∧ St.Le σ τ) (0, 0) ⟨?_, .none _, Nat.zero_le _, ⟨by omega, by omega⟩, rfl, .refl _⟩ ?_
  · show xWeak [(1, .vp (eStt ⟨clock, next, last, subs⟩)), (3, .int .i64 0), (29, eSubs subs), (30, .int .i64 subs.length), (31, .int .i64 (0 : Nat))] _
    rw [show subs.length = (subs.map eSub).length by simp]
    repeat (first | exact trivial | refine ⟨by first | trivial | exact Weak.refl _ | exact Weak.tok _ _ _ | exact Weak.of_eq (congrArg (AV.int _) (by omega)) | exact Weak.of_eq (congrArg AV.bool (by fail)) | exact Weak.nils _ _ (.inr rfl), ?_⟩)
  rintro ⟨i, lst⟩ τ ⟨hi, ⟨hl0, hl1⟩, hd, hle⟩
  by_cases hlt : i < subs.length
  · have ga : (subs.map eSub)[i]? = some (eSub subs[i]) := by simp [hlt]
    have hsm := hs _ (List.getElem_mem hlt)
    rw [List.drop_eq_getElem_cons hlt, goodS] at hd
    generalize subs[i] = x at *
    refine Xc_h ?_; (conv => whnf); refine Hid.seq ?_; refine Hid.reg ?_; (conv => whnf); refine Hid.seq ?_; refine Hid.cond rfl ?_
    skip
    refine SIf.y Ty.mixed (decide_eq_true (by omega)) ?_; refine Xc_h ?_; (conv => whnf); refine Hid.skip ?_; (conv => whnf); refine Hid.seq ?_; refine Hid.seq ?_; refine Hid.reg ?_; (conv => whnf)
    refine ⟨_, ⟨by first | omega | (simp only [List.length_cons, List.length_append, List.length_nil, List.length_map, length_aBytes, List.length_replicate, List.length_range]; omega) | fail, by exact ga⟩, ?_⟩
    (conv => whnf); intro b5 hb5; (conv => whnf); refine SStore.on 0 rfl ?_; (conv => whnf); refine Hid.seq ?_; refine Hid.seq ?_; refine Hid.reg ?_; (conv => whnf); refine SLoad.on 0 rfl ?_; (conv => whnf); refine ⟨_, IntWalk.i64_in _ (by omega), ?_⟩; (conv => whnf); refine SCall.p (by exact between_any w0 _ _ _) ?_; (conv => whnf); refine SCond.mk (fun hc => ?_) (fun hc => ?_); (conv => whnf)
    rotate_left; (conv => whnf)
    rotate_right
    refine SCond.y (by assumption) ?_; (conv => whnf); refine SCond.y (by assumption) ?_; (conv => whnf); refine SCond.y (by assumption) ?_; (conv => whnf); refine SCond.y (by assumption) ?_; (conv => whnf); refine SCond.y (by assumption) ?_; (conv => whnf); refine SCond.y (by assumption) ?_; (conv => whnf); refine SPick.y (by assumption) ?_; (conv => whnf); refine Hid.cond rfl ?_
    refine SIf.y Ty.mixed (by exact rfl) ?_; refine Xc_h ?_; (conv => whnf); refine Hid.seq ?_; refine Hid.reg ?_; (conv => whnf); refine Hid.ret ?_; (conv => whnf); rotate_left; refine SLoad.on 0 rfl ?_; (conv => whnf); refine SCond.n (by assumption) ?_; (conv => whnf); refine SCond.n (by assumption) ?_; (conv => whnf); refine SCond.n (by assumption) ?_; (conv => whnf)
    refine SCond.n (by assumption) ?_; (conv => whnf); refine SCond.n (by assumption) ?_; (conv => whnf); refine SCall.p (by exact good_any w0 x clock next hsm (by omega) ⟨by omega, by omega⟩) ?_; (conv => whnf); refine SCond.n (by assumption) ?_; (conv => whnf); refine SPick.n (by assumption) ?_; (conv => whnf); refine Hid.cond rfl ?_; refine SIf.x Ty.mixed (fun hc => ?_) (fun hc => ?_)
    refine Xc_h ?_; (conv => whnf); refine Hid.seq ?_; refine Hid.reg ?_; (conv => whnf); refine Hid.ret ?_; (conv => whnf); rotate_left; refine Xc_h ?_; (conv => whnf); refine Hid.skip ?_; (conv => whnf); refine Hid.reg ?_; (conv => whnf)
    rotate_right
    rotate_left; refine SLoad.on 0 rfl ?_; (conv => whnf); refine Hid.reg ?_; (conv => whnf); refine ⟨_, IntWalk.i64_in _ (by omega), ?_⟩; (conv => whnf); rotate_left
    all_goals
      rw [btw] at hd
      generalize hq1 : (decide (lst + 1 ≤ x.id) && decide (x.id ≤ last)) = q1 at *
      generalize hq2 : goodT x clock next = q2 at *
      first
        | (have hb : (q1 && q2) = false := by
             clear hd hs hf hln hfr hbd hi hl0 hl1 hle hlt ga hsm hb5 hq1 hq2
             cases q1 <;> cases q2 <;> simp_all
           rw [hb, Bool.false_and] at hd
           exact .p (le_new2 hle hb5) (by rw [rightS, hfr, ← hd]; rfl))
        | (have hb : (q1 && q2) = true := by
             clear hd hs hf hln hfr hbd hi hl0 hl1 hle hlt ga hsm hb5 hq1 hq2
             cases q1 <;> cases q2 <;> simp_all
           rw [hb, Bool.true_and] at hd
           have hb2 : q1 = true := by
             cases q1
             · cases hb
             · rfl
           rw [hb2] at hq1
           simp only [Bool.and_eq_true, decide_eq_true_eq] at hq1
           exact ⟨(i + 1, x.id), by show subs.length - (i + 1) < subs.length - i; omega, by repeat (first | exact trivial | refine ⟨by first | trivial | exact Weak.refl _ | exact Weak.tok _ _ _ | exact Weak.of_eq (congrArg (AV.int _) (by omega)) | exact Weak.of_eq (congrArg AV.bool (by fail)) | exact Weak.nils _ _ (.inr rfl), ?_⟩), .none _, hlt, ⟨by omega, by omega⟩, hd, le_new2 hle hb5⟩)
  · have hge : i = subs.length := by omega
    subst hge
    rw [List.drop_length] at hd
    refine Xc_h ?_; (conv => whnf); refine Hid.seq ?_; refine Hid.reg ?_; (conv => whnf); refine Hid.seq ?_; refine Hid.cond rfl ?_
    skip
    refine SIf.n Ty.mixed (decide_eq_false (by omega)) ?_; refine Xc_h ?_; (conv => whnf); refine Hid.exit ?_; (conv => whnf); refine Hid.seq ?_; refine Hid.reg ?_; (conv => whnf); refine Hid.ret ?_; (conv => whnf)
    skip
    exact .p hle (by rw [rightS, hfr, ← hd]; rfl)
theorem refRight_state (w0 : Base) (s : Stt) (hs : ∀ x ∈ s.subs, Small x) (hf : s.subs.length ≤ 977343669120) : CallP Tryz.prog w0 27 [eStt s] (.bool (rightS s)) := by
  obtain ⟨clock, next, last, subs⟩ := s
  dsimp only at hs hf ⊢
  refine CallP.h Ty.tok Ty.mixed Tryz.func27 rfl Tryz.ntmps27 rfl (by simp) (by decide +kernel) fun σ => ?_
  have hln : (subs.map eSub).length = subs.length := by simp
  (conv => whnf); refine Hid.seq ?_; refine Hid.reg ?_; (conv => whnf); refine SBox.f ?_; (conv => whnf); refine Hid.seq ?_; refine Hid.seq ?_; refine Hid.reg ?_; (conv => whnf); refine SCond.mk (fun hc => ?_) (fun hc => ?_); (conv => whnf); rotate_left; (conv => whnf)
  rotate_right
  refine SCond.y (by assumption) ?_; (conv => whnf); refine SCond.y (by assumption) ?_; (conv => whnf); refine SPick.y (by assumption) ?_; (conv => whnf); refine SCond.y (by exact rfl) ?_; (conv => whnf); refine SCond.y (by exact rfl) ?_; (conv => whnf); refine SCond.y (by exact rfl) ?_; (conv => whnf); refine SPick.y (by exact rfl) ?_; (conv => whnf); refine SCond.y (by exact rfl) ?_
  (conv => whnf); refine SCond.y (by exact rfl) ?_; (conv => whnf); refine SCond.y (by exact rfl) ?_; (conv => whnf); refine SPick.y (by exact rfl) ?_; (conv => whnf); refine SCond.y (by exact rfl) ?_; (conv => whnf); refine SCond.y (by exact rfl) ?_; (conv => whnf); refine SCond.y (by exact rfl) ?_; (conv => whnf); refine SPick.y (by exact rfl) ?_; (conv => whnf); refine SCond.y (by exact rfl) ?_
  (conv => whnf); refine SCond.y (by exact rfl) ?_; (conv => whnf); refine SCond.y (by exact rfl) ?_; (conv => whnf); refine SPick.y (by exact rfl) ?_; (conv => whnf); refine SCond.y (by exact rfl) ?_; (conv => whnf); refine SCond.y (by exact rfl) ?_; (conv => whnf); refine SCond.y (by exact rfl) ?_; (conv => whnf); refine SCond.y (by exact rfl) ?_; (conv => whnf); refine SPick.y (by exact rfl) ?_
  (conv => whnf); refine Hid.cond rfl ?_; refine SIf.y Ty.mixed (by exact rfl) ?_; refine Xc_h ?_; (conv => whnf); refine Hid.seq ?_; refine Hid.reg ?_; (conv => whnf); refine Hid.ret ?_; (conv => whnf); rotate_left; refine SCond.n (by assumption) ?_; (conv => whnf); refine SCond.n (by assumption) ?_; (conv => whnf); refine SPick.n (by assumption) ?_; (conv => whnf)
  refine SCond.mk (fun hc => ?_) (fun hc => ?_); (conv => whnf); rotate_left; (conv => whnf)
  rotate_right
  refine SCond.y (by assumption) ?_; (conv => whnf); refine SCond.y (by assumption) ?_; (conv => whnf); refine SPick.y (by assumption) ?_; (conv => whnf); refine SCond.y (by exact rfl) ?_; (conv => whnf); refine SCond.y (by exact rfl) ?_; (conv => whnf); refine SCond.y (by exact rfl) ?_; (conv => whnf); refine SPick.y (by exact rfl) ?_; (conv => whnf); refine SCond.y (by exact rfl) ?_
  (conv => whnf); refine SCond.y (by exact rfl) ?_; (conv => whnf); refine SCond.y (by exact rfl) ?_; (conv => whnf); refine SPick.y (by exact rfl) ?_; (conv => whnf); refine SCond.y (by exact rfl) ?_; (conv => whnf); refine SCond.y (by exact rfl) ?_; (conv => whnf); refine SCond.y (by exact rfl) ?_; (conv => whnf); refine SPick.y (by exact rfl) ?_; (conv => whnf); refine SCond.y (by exact rfl) ?_
  (conv => whnf); refine SCond.y (by exact rfl) ?_; (conv => whnf); refine SCond.y (by exact rfl) ?_; (conv => whnf); refine SCond.y (by exact rfl) ?_; (conv => whnf); refine SPick.y (by exact rfl) ?_; (conv => whnf); refine Hid.cond rfl ?_; refine SIf.y Ty.mixed (by exact rfl) ?_; refine Xc_h ?_; (conv => whnf); refine Hid.seq ?_; refine Hid.reg ?_; (conv => whnf); refine Hid.ret ?_
  (conv => whnf); rotate_left; refine SCond.n (by assumption) ?_; (conv => whnf); refine SCond.n (by assumption) ?_; (conv => whnf); refine SPick.n (by assumption) ?_; (conv => whnf); refine SCond.mk (fun hc => ?_) (fun hc => ?_); (conv => whnf); rotate_left; (conv => whnf)
  rotate_right
  refine SCond.y (by assumption) ?_; (conv => whnf); refine SCond.y (by assumption) ?_; (conv => whnf); refine SPick.y (by assumption) ?_; (conv => whnf); refine SCond.y (by exact rfl) ?_; (conv => whnf); refine SCond.y (by exact rfl) ?_; (conv => whnf); refine SCond.y (by exact rfl) ?_; (conv => whnf); refine SPick.y (by exact rfl) ?_; (conv => whnf); refine SCond.y (by exact rfl) ?_
  (conv => whnf); refine SCond.y (by exact rfl) ?_; (conv => whnf); refine SCond.y (by exact rfl) ?_; (conv => whnf); refine SPick.y (by exact rfl) ?_; (conv => whnf); refine SCond.y (by exact rfl) ?_; (conv => whnf); refine SCond.y (by exact rfl) ?_; (conv => whnf); refine SCond.y (by exact rfl) ?_; (conv => whnf); refine SCond.y (by exact rfl) ?_; (conv => whnf); refine SPick.y (by exact rfl) ?_
  (conv => whnf); refine Hid.cond rfl ?_; refine SIf.y Ty.mixed (by exact rfl) ?_; refine Xc_h ?_; (conv => whnf); refine Hid.seq ?_; refine Hid.reg ?_; (conv => whnf); refine Hid.ret ?_; (conv => whnf); rotate_left; refine SCond.n (by assumption) ?_; (conv => whnf); refine SCond.n (by assumption) ?_; (conv => whnf); refine SPick.n (by assumption) ?_; (conv => whnf)
  refine SCond.mk (fun hc => ?_) (fun hc => ?_); (conv => whnf); rotate_left; (conv => whnf)
  rotate_right
  refine SCond.y (by assumption) ?_; (conv => whnf); refine SCond.y (by assumption) ?_; (conv => whnf); refine SPick.y (by assumption) ?_; (conv => whnf); refine SCond.y (by exact rfl) ?_; (conv => whnf); refine SCond.y (by exact rfl) ?_; (conv => whnf); refine SCond.y (by exact rfl) ?_; (conv => whnf); refine SPick.y (by exact rfl) ?_; (conv => whnf); refine SCond.y (by exact rfl) ?_
  (conv => whnf); refine SCond.y (by exact rfl) ?_; (conv => whnf); refine SCond.y (by exact rfl) ?_; (conv => whnf); refine SCond.y (by exact rfl) ?_; (conv => whnf); refine SPick.y (by exact rfl) ?_; (conv => whnf); refine Hid.cond rfl ?_; refine SIf.y Ty.mixed (by exact rfl) ?_; refine Xc_h ?_; (conv => whnf); refine Hid.seq ?_; refine Hid.reg ?_; (conv => whnf); refine Hid.ret ?_
  (conv => whnf); rotate_left; refine SCond.n (by assumption) ?_; (conv => whnf); refine SCond.n (by assumption) ?_; (conv => whnf); refine SPick.n (by assumption) ?_; (conv => whnf); refine SCond.mk (fun hc => ?_) (fun hc => ?_); (conv => whnf); rotate_left; (conv => whnf)
  rotate_right
  refine SCond.y (by assumption) ?_; (conv => whnf); refine SCond.y (by assumption) ?_; (conv => whnf); refine SPick.y (by assumption) ?_; (conv => whnf); refine SCond.y (by exact rfl) ?_; (conv => whnf); refine SCond.y (by exact rfl) ?_; (conv => whnf); refine SCond.y (by exact rfl) ?_; (conv => whnf); refine SCond.y (by exact rfl) ?_; (conv => whnf); refine SPick.y (by exact rfl) ?_
  (conv => whnf); refine Hid.cond rfl ?_; refine SIf.y Ty.mixed (by exact rfl) ?_; refine Xc_h ?_; (conv => whnf); refine Hid.seq ?_; refine Hid.reg ?_; (conv => whnf); refine Hid.ret ?_; (conv => whnf); rotate_left; refine SCond.n (by assumption) ?_; (conv => whnf); refine SCond.n (by assumption) ?_; (conv => whnf); refine SPick.n (by assumption) ?_; (conv => whnf)
  refine SCond.mk (fun hc => ?_) (fun hc => ?_); (conv => whnf); rotate_left; (conv => whnf)
  rotate_right
  refine SCond.y (by assumption) ?_; (conv => whnf); refine SCond.y (by assumption) ?_; (conv => whnf); refine SCond.y (by assumption) ?_; (conv => whnf); refine SPick.y (by assumption) ?_; (conv => whnf); refine Hid.cond rfl ?_; refine SIf.y Ty.mixed (by exact rfl) ?_; refine Xc_h ?_; (conv => whnf); refine Hid.seq ?_; refine Hid.reg ?_; (conv => whnf); refine Hid.ret ?_; (conv => whnf)
  rotate_left; refine SCond.n (by assumption) ?_; (conv => whnf); refine SCond.n (by assumption) ?_; (conv => whnf); refine SCond.n (by assumption) ?_; (conv => whnf); refine SPick.n (by assumption) ?_; (conv => whnf); refine Hid.cond rfl ?_; refine SIf.x Ty.mixed (fun hc => ?_) (fun hc => ?_); refine Xc_h ?_; (conv => whnf); refine Hid.seq ?_; refine Hid.reg ?_; (conv => whnf); refine Hid.ret ?_
  (conv => whnf); rotate_left; refine Xc_h ?_; (conv => whnf); refine Hid.skip ?_; (conv => whnf); refine Hid.seq ?_; refine Hid.reg ?_; (conv => whnf); refine Hid.seq ?_; refine Hid.seq ?_; refine Hid.reg ?_; (conv => whnf); refine Hid.block ?_; refine Hid.loop ?_
  rotate_right
  rotate_left; rotate_left
  all_goals first
    | (refine .p (.refl _) (congrArg AV.bool ?_)
       have h : frontS ⟨clock, next, last, subs⟩ = false := by
         rw [frontS, btw, btw, btw]
         simp only [List.length_map] at *
         simp_all
         try omega
       rw [rightS, h, Bool.false_and])
    | skip
  have hfr : frontS ⟨clock, next, last, subs⟩ = true := by
    rw [frontS, btw, btw, btw]
    simp only [List.length_map] at *
    simp_all
    try omega
  have hbd : (0 ≤ clock ∧ clock ≤ 4503599627370496) ∧ (1 ≤ next ∧ next ≤ 1073741824) ∧ 0 ≤ last ∧ last ≤ 1073741824 := by
    simp only [frontS, btw, Bool.and_eq_true, decide_eq_true_eq] at hfr
    omega
  refine SLoop.by Ty.mixed (fun ((i, lst) : Nat × Int) => subs.length - i) (fun (i, lst) => [(1, .vp (eStt ⟨clock, next, last, subs⟩)), (3, .int .i64 lst), (4, .int .i64 i)]) (fun _ => []) (fun (i, lst) τ => i ≤ subs.length ∧ (0 ≤ lst ∧ lst ≤ 1073741824) ∧ goodS last clock next lst (subs.drop i) = goodS last clock next 0 subs ∧ τ = σ) (0, 0) ⟨by repeat (first | exact trivial | refine ⟨by first | trivial | exact Weak.refl _ | exact Weak.tok _ _ _ | exact Weak.of_eq (congrArg (AV.int _) (by omega)) | exact Weak.of_eq (congrArg AV.bool (by fail)) | exact Weak.nils _ _ (.inr rfl), ?_⟩), .none _, Nat.zero_le _, ⟨by omega, by omega⟩, rfl, rfl⟩ ?_
  rintro ⟨i, lst⟩ τ ⟨hi, ⟨hl0, hl1⟩, hd, rfl⟩
  by_cases hlt : i < subs.length
  · have ga : (subs.map eSub)[i]? = some (eSub subs[i]) := by simp [hlt]
    have hsm := hs _ (List.getElem_mem hlt)
    rw [List.drop_eq_getElem_cons hlt, goodS] at hd
    generalize subs[i] = x at *
    refine Xc_h ?_; (conv => whnf); refine Hid.seq ?_; refine Hid.seq ?_; refine Hid.reg ?_; (conv => whnf); refine Hid.cond rfl ?_
    skip
    refine SIf.y Ty.mixed (decide_eq_true (by rw [hln]; omega)) ?_; refine Xc_h ?_; (conv => whnf); refine Hid.skip ?_; (conv => whnf); refine Hid.seq ?_; refine Hid.seq ?_; refine Hid.seq ?_; refine Hid.regD ?_; refine SReg.t 0 [] (by decide +kernel) ?_; (conv => whnf)
    refine ⟨_, ⟨by first | omega | (rw [hln]; omega) | (simp only [hln]; omega) | fail, by exact ga⟩, ?_⟩
    (conv => whnf); refine SCond.mk (fun hc => ?_) (fun hc => ?_); (conv => whnf); rotate_left; (conv => whnf)
    rotate_right
    refine SCond.y (by assumption) ?_; (conv => whnf); refine SCond.y (by assumption) ?_; (conv => whnf); refine SCond.y (by assumption) ?_; (conv => whnf); refine SCond.y (by assumption) ?_; (conv => whnf); refine SCond.y (by assumption) ?_; (conv => whnf); refine SCond.y (by assumption) ?_; (conv => whnf); refine SCond.y (by assumption) ?_; (conv => whnf); refine SCond.y (by assumption) ?_
    (conv => whnf); refine SPick.y (by assumption) ?_; (conv => whnf); refine SCond.y (by exact rfl) ?_; (conv => whnf); refine SCond.y (by exact rfl) ?_; (conv => whnf); refine SCond.y (by exact rfl) ?_; (conv => whnf); refine SCond.y (by exact rfl) ?_; (conv => whnf); refine SCond.y (by exact rfl) ?_; (conv => whnf); refine SCond.y (by exact rfl) ?_; (conv => whnf)
    refine SCond.y (by exact rfl) ?_; (conv => whnf); refine SCond.y (by exact rfl) ?_; (conv => whnf); refine SCond.y (by exact rfl) ?_; (conv => whnf); refine SCond.y (by exact rfl) ?_; (conv => whnf); refine SCond.y (by exact rfl) ?_; (conv => whnf); refine SPick.y (by exact rfl) ?_; (conv => whnf); refine Hid.cond rfl ?_; refine SIf.y Ty.mixed (by exact rfl) ?_; refine Xc_h ?_; (conv => whnf)
    refine Hid.seq ?_; refine Hid.reg ?_; (conv => whnf); refine Hid.ret ?_; (conv => whnf); rotate_left; refine SCond.n (by assumption) ?_; (conv => whnf); refine SCond.n (by assumption) ?_; (conv => whnf); refine SCond.n (by assumption) ?_; (conv => whnf)
    refine ⟨_, ⟨by first | omega | (rw [hln]; omega) | (simp only [hln]; omega) | fail, by exact ga⟩, ?_⟩
    (conv => whnf); refine SCond.n (by assumption) ?_; (conv => whnf); refine SCond.n (by assumption) ?_; (conv => whnf); refine SCond.n (by assumption) ?_; (conv => whnf); refine SCond.n (by assumption) ?_; (conv => whnf); refine SCond.n (by assumption) ?_; (conv => whnf); refine SPick.n (by assumption) ?_; (conv => whnf); refine SCond.mk (fun hc => ?_) (fun hc => ?_); (conv => whnf); rotate_left
    (conv => whnf)
    rotate_right
    refine SCond.y (by assumption) ?_; (conv => whnf); refine SCond.y (by assumption) ?_; (conv => whnf); refine SCond.y (by assumption) ?_; (conv => whnf); refine SCond.y (by assumption) ?_; (conv => whnf); refine SCond.y (by assumption) ?_; (conv => whnf); refine SCond.y (by assumption) ?_; (conv => whnf); refine SCond.y (by assumption) ?_; (conv => whnf); refine SCond.y (by assumption) ?_
    (conv => whnf); refine SCond.y (by assumption) ?_; (conv => whnf); refine SCond.y (by assumption) ?_; (conv => whnf); refine SPick.y (by assumption) ?_; (conv => whnf); refine Hid.cond rfl ?_; refine SIf.y Ty.mixed (by exact rfl) ?_; refine Xc_h ?_; (conv => whnf); refine Hid.seq ?_; refine Hid.reg ?_; (conv => whnf); refine Hid.ret ?_; (conv => whnf); rotate_left
    refine SCond.n (by assumption) ?_; (conv => whnf); refine SCond.n (by assumption) ?_; (conv => whnf); refine SCond.n (by assumption) ?_; (conv => whnf)
    refine ⟨_, ⟨by first | omega | (rw [hln]; omega) | (simp only [hln]; omega) | fail, by exact ga⟩, ?_⟩
    (conv => whnf); refine SCond.n (by assumption) ?_; (conv => whnf); refine SCond.n (by assumption) ?_; (conv => whnf); refine SCond.n (by assumption) ?_; (conv => whnf); refine SCond.n (by assumption) ?_; (conv => whnf); refine SCond.n (by assumption) ?_; (conv => whnf); refine SCond.n (by assumption) ?_; (conv => whnf)
    refine SCall.p (by exact refGood_any w0 x clock next hsm (by omega) ⟨by omega, by omega⟩) ?_; (conv => whnf); refine SCond.n (by assumption) ?_; (conv => whnf); refine SPick.n (by assumption) ?_; (conv => whnf); refine Hid.cond rfl ?_; refine SIf.x Ty.mixed (fun hc => ?_) (fun hc => ?_); refine Xc_h ?_; (conv => whnf); refine Hid.seq ?_; refine Hid.reg ?_; (conv => whnf); refine Hid.ret ?_
    (conv => whnf); rotate_left; refine Xc_h ?_; (conv => whnf); refine Hid.skip ?_; (conv => whnf); refine Hid.reg ?_; (conv => whnf)
    rotate_right
    rotate_left
    refine ⟨_, ⟨by first | omega | (rw [hln]; omega) | (simp only [hln]; omega) | fail, by exact ga⟩, ?_⟩
    (conv => whnf); refine Hid.reg ?_; (conv => whnf); refine ⟨_, IntWalk.i64_in _ (by omega), ?_⟩; (conv => whnf); rotate_left
    all_goals simp only [decide_eq_true_eq, decide_eq_false_iff_not] at *
    all_goals
      generalize hq2 : goodT x clock next = q2 at *
      first
        | (have hb : (btw x.id (lst + 1) last && q2) = false := by
             have h1 : btw x.id (lst + 1) last = false ∨ q2 = false := by
               rw [btw, Bool.and_eq_false_iff, decide_eq_false_iff_not, decide_eq_false_iff_not]
               first | (left; omega) | (right; simp_all; done)
             rcases h1 with h1 | h1 <;> simp [h1]
           rw [hb, Bool.false_and] at hd
           exact .p (.refl _) (by rw [rightS, hfr, ← hd]; rfl))
        | (have hb1 : btw x.id (lst + 1) last = true := by
             rw [btw, Bool.and_eq_true, decide_eq_true_eq, decide_eq_true_eq]; omega
           have hb2 : q2 = true := by
             clear hd hs hf hln hfr hbd hi hl0 hl1 hlt ga hsm hq2 hb1
             cases q2 <;> simp_all
           rw [hb1, hb2, Bool.true_and, Bool.true_and] at hd
           exact ⟨(i + 1, x.id), by show subs.length - (i + 1) < subs.length - i; omega, by repeat (first | exact trivial | refine ⟨by first | trivial | exact Weak.refl _ | exact Weak.tok _ _ _ | exact Weak.of_eq (congrArg (AV.int _) (by omega)) | exact Weak.of_eq (congrArg AV.bool (by fail)) | exact Weak.nils _ _ (.inr rfl), ?_⟩), .none _, hlt, ⟨by omega, by omega⟩, hd, rfl⟩)
  · have hge : i = subs.length := by omega
    subst hge
    rw [List.drop_length] at hd
    refine Xc_h ?_; (conv => whnf); refine Hid.seq ?_; refine Hid.seq ?_; refine Hid.reg ?_; (conv => whnf); refine Hid.cond rfl ?_
    skip
    refine SIf.n Ty.mixed (decide_eq_false (by rw [hln]; omega)) ?_; refine Xc_h ?_; (conv => whnf); refine Hid.exit ?_; (conv => whnf); refine Hid.seq ?_; refine Hid.reg ?_; (conv => whnf); refine Hid.ret ?_; (conv => whnf)
    skip
    exact .p (.refl _) (by rw [rightS, hfr, ← hd]; rfl)
end Go.Proofs.YtgliemhhnkhboaaGreatDoor
end
section
set_option linter.unusedVariables false
set_option linter.unusedSimpArgs false
set_option maxRecDepth 100000
set_option maxHeartbeats 4000000
namespace Go.Proofs.YtgliemhhnkhboaaGreatDoor
open Go.Al Go.RowKit
theorem put_raw (w0 : Base) (ck nx ls : Int) (l : List Sub) (id lease most floor : Int) (name topic want note : List UInt8) (acks : List Int) (queue : List Msg) (ta tq : Tok) (hf : Fine l) (hxa : acks.length ≤ 17592186043904) (hxq : queue.length ≤ 1599289640354) :
    CallP Tryz.prog w0 25 [.agg [.int .i64 ck, .int .i64 nx, .int .i64 ls, .slc 10 (l.map eSub) .no], .agg [.int .i64 id, .str name, .str topic, .str want, .int .i64 lease, .int .i64 most, .int .i64 floor, .slc 1 (acks.map (.int .i64)) ta, .slc 8 (queue.map eMsg) tq, .str note]] (eStt ⟨ck, nx, ls, putS l ⟨id, name, topic, want, lease, most, floor, acks, queue, note⟩⟩) := fun σ =>
  (refPut_any w0 ⟨ck, nx, ls, l⟩ ⟨id, name, topic, want, lease, most, floor, acks, queue, note⟩ hf hxa hxq σ).weaken (.cons (.refl _) (.cons (.agg (.cons (.refl _) (.cons (.refl _) (.cons (.refl _) (.cons (.refl _) (.cons (.refl _) (.cons (.refl _) (.cons (.refl _) (.cons (.tok _ _ _) (.cons (.tok _ _ _) (.cons (.refl _) .nil)))))))))) (by simp [AV.one, eInts, eMsgs])) .nil))
theorem putS_small {l : List Sub} {x : Sub} (hl : ∀ y ∈ l, Small y) (hx : Small x) : ∀ y ∈ putS l x, Small y := fun y hy => by
  rcases mem_put.1 hy with rfl | ⟨h, _⟩
  · exact hx
  · exact hl y h
theorem putS_len (l : List Sub) (x : Sub) : (putS l x).length ≤ l.length + 1 := by
  have h1 : (upto (wo l x.id) x.id ++ beyond (wo l x.id) x.id).length = (wo l x.id).length := by rw [upto_beyond]
  have h2 : (wo l x.id).length ≤ l.length := List.length_filter_le _ _
  rw [List.length_append] at h1
  rw [putS, List.length_append, List.length_cons]
  omega
theorem bent_state (w0 : Base) (s : Stt) (k : UInt8) (n : Int) (hf : Fine s.subs) (hs : ∀ x ∈ s.subs, Small x) (hq : ∀ x ∈ s.subs, x.queue.length ≤ 1000000) (σ : St) : CallW Tryz.prog w0 11 [eStt s, .int .u8 k.toNat, .int .i64 n] σ (fun r τ => ∃ u : Stt, r = eStt u ∧ (∀ x ∈ u.subs, Small x) ∧ u.subs.length ≤ s.subs.length + 1 ∧ St.Le σ τ) := by
  refine CallW.h (B := []) Ty.tok Ty.mixed Tryz.func11 rfl Tryz.ntmps11 rfl (by simp) (by decide +kernel) (.nil σ) ?_
  obtain ⟨clock, next, last, l⟩ := s
  dsimp only at hf hs hq ⊢
  have hn := hf.n
  have hk := k.toNat_lt
  (conv => whnf); refine Hid.seq ?_; refine Hid.reg ?_; (conv => whnf); refine SBox.b rfl ?_; (conv => whnf); intro b3 hb3; (conv => whnf); intro b6 hb6; (conv => whnf); refine Hid.seq ?_; refine Hid.seq ?_; refine Hid.reg ?_; (conv => whnf)
  cases l with
  | nil =>
    refine SLoad.on 1 rfl ?_; (conv => whnf); refine Hid.cond rfl ?_; refine SIf.y Ty.mixed (by exact rfl) ?_; refine Xc_h ?_; (conv => whnf); refine Hid.seq ?_; refine Hid.reg ?_; (conv => whnf); refine SStore.on 1 rfl ?_; (conv => whnf); refine Hid.seq ?_; refine Hid.reg ?_; (conv => whnf); refine SLoad.on 1 rfl ?_; (conv => whnf); refine SStore.on 0 rfl ?_; (conv => whnf); refine Hid.ret ?_
    (conv => whnf); refine SLoad.on 0 rfl ?_; (conv => whnf)
    refine .w ⟨⟨clock, n, last, []⟩, rfl, by simp, by simp, ?_⟩
    have h6 := le_none (le_new (.refl _) hb3) hb6
    repeat (first | exact .refl _ | assumption | refine le_setBox ?_ (by assumption))
  | cons x0 xs =>
    obtain ⟨l, hl⟩ : ∃ l, l = x0 :: xs := ⟨_, rfl⟩
    rw [← hl] at hf hs hq hn ⊢
    have hpos : 0 < l.length := by rw [hl]; simp
    clear hl
    have hml : (l.map eSub).length = l.length := by simp
    refine SLoad.on 1 rfl ?_; (conv => whnf); refine Hid.cond rfl ?_; refine SIf.n Ty.mixed (decide_eq_false (by rw [hml]; omega)) ?_; refine Xc_h ?_; (conv => whnf); refine Hid.skip ?_; (conv => whnf); refine Hid.seq ?_; refine Hid.regD ?_
    have hmod : (k.toNat : Int) % (l.length : Int) < l.length ∧ 0 ≤ (k.toNat : Int) % (l.length : Int) := ⟨Int.emod_lt_of_pos _ (by omega), Int.emod_nonneg _ (by omega)⟩
    obtain ⟨j, hj⟩ : ∃ j : Nat, (k.toNat : Int) % (l.length : Int) = j := ⟨((k.toNat : Int) % (l.length : Int)).toNat, by omega⟩
    have hjl : j < l.length := by omega
    have ga : (l.map eSub)[j]? = some (eSub l[j]) := by simp [hjl]
    have hx := hs _ (List.getElem_mem hjl)
    have hxq := hq _ (List.getElem_mem hjl)
    generalize l[j] = x at *
    obtain ⟨id, name, topic, want, lease, most, floor, acks, queue, note⟩ := x
    refine SReg.h 1 rfl [0, 2, 3, 4, 1, 5, 6, 7, 8, 9, 10, 11] [0, 3, 0, 0, 0, 3, 0, 0, 0, 3, 4, 2] (by decide +kernel) ?_; (conv => whnf); refine ⟨_, IntWalk.i64_in _ (by omega), ?_⟩; (conv => whnf); refine SLoadH.on 1 rfl rfl ?_; (conv => whnf); refine SLoadH.on 1 rfl rfl ?_; (conv => whnf); refine And.intro (by rw [hml]; omega) ?_; (conv => whnf)
    refine ⟨_, ⟨by first | omega | (rw [hml]; omega) | (simp only [hml]; omega) | fail, by first | exact ga | rw [hml, hj]; exact ga⟩, ?_⟩
    (conv => whnf); intro b7 hb7; (conv => whnf); refine SStore.on 0 rfl ?_; (conv => whnf); refine Hid.seq ?_; refine Hid.seq ?_; refine Hid.reg ?_; (conv => whnf); refine And.intro (by omega) ?_; (conv => whnf); refine And.intro (by omega) ?_; (conv => whnf); refine Hid.seq ?_; refine Hid.reg ?_; (conv => whnf); refine Hid.cond rfl ?_; refine SIf.x Ty.mixed (fun hc => ?_) (fun hc => ?_)
    refine Xc_h ?_; (conv => whnf); refine Hid.reg ?_; (conv => whnf); rotate_left; refine Xc_h ?_; (conv => whnf); refine Hid.seq ?_; refine Hid.reg ?_; (conv => whnf); refine Hid.cond rfl ?_
    rotate_right
    refine SStore.on 0 rfl ?_; (conv => whnf); refine Hid.seq ?_; refine Hid.reg ?_; (conv => whnf); refine SLoad.on 2 rfl ?_; (conv => whnf); refine SLoad.on 0 rfl ?_; (conv => whnf); refine SCall.p (by exact put_raw w0 _ _ _ l _ _ _ _ _ _ _ _ acks queue _ _ hf hx.nacks hx.nqueue) ?_; (conv => whnf); refine SStore.on 1 rfl ?_; (conv => whnf); refine Hid.ret ?_; (conv => whnf)
    refine SLoad.on 1 rfl ?_; (conv => whnf); rotate_left; refine SIf.x Ty.mixed (fun hc => ?_) (fun hc => ?_); refine Xc_h ?_; (conv => whnf); refine Hid.reg ?_; (conv => whnf); rotate_left; refine Xc_h ?_; (conv => whnf); refine Hid.seq ?_; refine Hid.reg ?_; (conv => whnf); refine Hid.cond rfl ?_
    rotate_right
    refine SStore.on 0 rfl ?_; (conv => whnf); refine Hid.seq ?_; refine Hid.reg ?_; (conv => whnf); refine SLoad.on 2 rfl ?_; (conv => whnf); refine SLoad.on 0 rfl ?_; (conv => whnf); refine SCall.p (by exact put_raw w0 _ _ _ l _ _ _ _ _ _ _ _ acks queue _ _ hf hx.nacks hx.nqueue) ?_; (conv => whnf); refine SStore.on 1 rfl ?_; (conv => whnf); refine Hid.ret ?_; (conv => whnf)
    refine SLoad.on 1 rfl ?_; (conv => whnf); rotate_left; refine SIf.x Ty.mixed (fun hc => ?_) (fun hc => ?_); refine Xc_h ?_; (conv => whnf); refine Hid.reg ?_; (conv => whnf); rotate_left; refine Xc_h ?_; (conv => whnf); refine Hid.seq ?_; refine Hid.reg ?_; (conv => whnf); refine Hid.cond rfl ?_
    rotate_right
    refine SStore.on 0 rfl ?_; (conv => whnf); refine Hid.seq ?_; refine Hid.reg ?_; (conv => whnf); refine SLoad.on 2 rfl ?_; (conv => whnf); refine SLoad.on 0 rfl ?_; (conv => whnf); refine SCall.p (by exact put_raw w0 _ _ _ l _ _ _ _ _ _ _ _ acks queue _ _ hf hx.nacks hx.nqueue) ?_; (conv => whnf); refine SStore.on 1 rfl ?_; (conv => whnf); refine Hid.ret ?_; (conv => whnf)
    refine SLoad.on 1 rfl ?_; (conv => whnf); rotate_left; refine SIf.x Ty.mixed (fun hc => ?_) (fun hc => ?_); refine Xc_h ?_; (conv => whnf); refine Hid.reg ?_; (conv => whnf); rotate_left; refine Xc_h ?_; (conv => whnf); refine Hid.seq ?_; refine Hid.reg ?_; (conv => whnf); refine Hid.cond rfl ?_
    rotate_right
    refine SStore.on 0 rfl ?_; (conv => whnf); refine Hid.seq ?_; refine Hid.reg ?_; (conv => whnf); refine SLoad.on 2 rfl ?_; (conv => whnf); refine SLoad.on 0 rfl ?_; (conv => whnf); refine SCall.p (by exact put_raw w0 _ _ _ l _ _ _ _ _ _ _ _ acks queue _ _ hf hx.nacks hx.nqueue) ?_; (conv => whnf); refine SStore.on 1 rfl ?_; (conv => whnf); refine Hid.ret ?_; (conv => whnf)
    refine SLoad.on 1 rfl ?_; (conv => whnf); rotate_left; refine SIf.x Ty.mixed (fun hc => ?_) (fun hc => ?_); refine Xc_h ?_; (conv => whnf); refine Hid.reg ?_; (conv => whnf); rotate_left; refine Xc_h ?_; (conv => whnf); refine Hid.seq ?_; refine Hid.reg ?_; (conv => whnf); refine Hid.cond rfl ?_
    rotate_right
    refine SStore.on 0 rfl ?_; (conv => whnf); refine Hid.seq ?_; refine Hid.reg ?_; (conv => whnf); refine SLoad.on 2 rfl ?_; (conv => whnf); refine SLoad.on 0 rfl ?_; (conv => whnf); refine SCall.p (by exact put_raw w0 _ _ _ l _ _ _ _ _ _ _ _ [n, 3] queue _ _ hf (by simp) hx.nqueue) ?_; (conv => whnf); refine SStore.on 1 rfl ?_; (conv => whnf); refine Hid.ret ?_; (conv => whnf)
    refine SLoad.on 1 rfl ?_; (conv => whnf); rotate_left; refine SIf.x Ty.mixed (fun hc => ?_) (fun hc => ?_); refine Xc_h ?_; (conv => whnf); refine Hid.reg ?_; (conv => whnf); rotate_left; refine Xc_h ?_; (conv => whnf); refine Hid.seq ?_; refine Hid.reg ?_; (conv => whnf); refine Hid.cond rfl ?_
    rotate_right
    refine SStore.on 0 rfl ?_; (conv => whnf); refine Hid.seq ?_; refine Hid.reg ?_; (conv => whnf); refine SLoad.on 2 rfl ?_; (conv => whnf); refine SLoad.on 0 rfl ?_; (conv => whnf); refine SCall.p (by exact put_raw w0 _ _ _ l _ _ _ _ _ _ _ _ acks queue _ _ hf hx.nacks hx.nqueue) ?_; (conv => whnf); refine SStore.on 1 rfl ?_; (conv => whnf); refine Hid.ret ?_; (conv => whnf)
    refine SLoad.on 1 rfl ?_; (conv => whnf); rotate_left; refine SIf.x Ty.mixed (fun hc => ?_) (fun hc => ?_); refine Xc_h ?_; (conv => whnf); refine Hid.reg ?_; (conv => whnf); rotate_left; refine Xc_h ?_; (conv => whnf); refine Hid.seq ?_; refine Hid.reg ?_; (conv => whnf); refine Hid.cond rfl ?_
    rotate_right
    refine SStore.on 0 rfl ?_; (conv => whnf); refine Hid.seq ?_; refine Hid.reg ?_; (conv => whnf); refine SLoad.on 2 rfl ?_; (conv => whnf); refine SLoad.on 0 rfl ?_; (conv => whnf); refine SCall.p (by exact put_raw w0 _ _ _ l _ _ _ _ _ _ _ _ acks queue _ _ hf hx.nacks hx.nqueue) ?_; (conv => whnf); refine SStore.on 1 rfl ?_; (conv => whnf); refine Hid.ret ?_; (conv => whnf)
    refine SLoad.on 1 rfl ?_; (conv => whnf); rotate_left; refine SIf.x Ty.mixed (fun hc => ?_) (fun hc => ?_); refine Xc_h ?_; (conv => whnf); refine Hid.reg ?_; (conv => whnf); rotate_left; refine Xc_h ?_; (conv => whnf); refine Hid.seq ?_; refine Hid.reg ?_; (conv => whnf); refine Hid.cond rfl ?_
    rotate_right
    refine SCall.p (by exact lawtext_any w0 40 60 (by omega) (by omega)) ?_; (conv => whnf); refine SStore.on 0 rfl ?_; (conv => whnf); refine Hid.seq ?_; refine Hid.reg ?_; (conv => whnf); refine SLoad.on 2 rfl ?_; (conv => whnf); refine SLoad.on 0 rfl ?_; (conv => whnf); refine SCall.p (by exact put_raw w0 _ _ _ l _ _ _ _ _ _ _ _ acks queue _ _ hf hx.nacks hx.nqueue) ?_; (conv => whnf)
    refine SStore.on 1 rfl ?_; (conv => whnf); refine Hid.ret ?_; (conv => whnf); refine SLoad.on 1 rfl ?_; (conv => whnf); rotate_left; refine SIf.x Ty.mixed (fun hc => ?_) (fun hc => ?_); refine Xc_h ?_; (conv => whnf); refine Hid.reg ?_; (conv => whnf); rotate_left; refine Xc_h ?_; (conv => whnf); refine Hid.seq ?_; refine Hid.reg ?_; (conv => whnf); refine Hid.cond rfl ?_
    rotate_right
    refine SStore.on 2 rfl ?_; (conv => whnf); refine Hid.seq ?_; refine Hid.reg ?_; (conv => whnf); refine SLoad.on 2 rfl ?_; (conv => whnf); refine SLoad.on 0 rfl ?_; (conv => whnf); refine SCall.p (by exact put_raw w0 _ _ _ l _ _ _ _ _ _ _ _ acks queue _ _ hf hx.nacks hx.nqueue) ?_; (conv => whnf); refine SStore.on 1 rfl ?_; (conv => whnf); refine Hid.ret ?_; (conv => whnf)
    refine SLoad.on 1 rfl ?_; (conv => whnf); rotate_left; refine SIf.x Ty.mixed (fun hc => ?_) (fun hc => ?_); refine Xc_h ?_; (conv => whnf); refine Hid.reg ?_; (conv => whnf); rotate_left; refine Xc_h ?_; (conv => whnf); refine Hid.seq ?_; refine Hid.reg ?_; (conv => whnf); refine Hid.seq ?_; refine Hid.reg ?_; (conv => whnf)
    rotate_right
    refine STrem.mk ⟨by decide, fun m1 hm1 => ?_⟩
    (conv => whnf); refine SStore.on 2 rfl ?_; (conv => whnf); refine Hid.seq ?_; refine Hid.reg ?_; (conv => whnf); refine SLoad.on 2 rfl ?_; (conv => whnf); refine SLoad.on 0 rfl ?_; (conv => whnf); refine SCall.p (by exact put_raw w0 _ _ _ l _ _ _ _ _ _ _ _ acks queue _ _ hf hx.nacks hx.nqueue) ?_; (conv => whnf); refine SStore.on 1 rfl ?_; (conv => whnf); refine Hid.ret ?_; (conv => whnf)
    refine SLoad.on 1 rfl ?_; (conv => whnf); rotate_left; refine SLoad.on 0 rfl ?_; (conv => whnf); rotate_left
    all_goals try
      (refine .w ⟨⟨_, _, _, putS l _⟩, rfl, putS_small hs ?_, putS_len l _, ?_⟩
       · refine ⟨?_, ?_, ?_, ?_, ?_, ?_⟩
         all_goals first | exact hx.name | exact hx.topic | exact hx.want | exact hx.attr | exact hx.nacks | exact hx.nqueue | (simp; done)
       · have h6 := le_none (le_new (.refl _) hb3) hb6
         have h7 : σ.box b7 = none := le_none (by repeat (first | exact .refl _ | assumption | refine le_setBox ?_ (by assumption))) hb7
         repeat (first | exact .refl _ | assumption | refine le_setBox ?_ (by assumption)))
    dsimp only at hxq
    have hqm : (queue.map eMsg).length = queue.length := by simp
    obtain ⟨w3, hw3⟩ : ∃ w : List UInt8, [AV.str [], AV.str [110, 97, 99, 107], AV.str [120]][((k.toNat : Int) % 3).toNat]? = some (.str w) := by
      have h3 : (k.toNat : Int) % 3 = 0 ∨ (k.toNat : Int) % 3 = 1 ∨ (k.toNat : Int) % 3 = 2 := by omega
      rcases h3 with h | h | h <;> rw [h] <;> exact ⟨_, rfl⟩
    refine SApp.c rfl rfl (by exact Moves.full _) (by simp only [List.length_nil, List.length_cons, List.length_map, List.nil_append]; omega) fun tk1 σ1 hm => ?_
    (conv => whnf); refine Hid.seq ?_; refine Hid.regD ?_; refine SReg.t 1 [] (by decide +kernel) ?_; (conv => whnf); (conv => whnf); refine SLoad.on 2 rfl ?_; (conv => whnf); refine ⟨_, rfl, ?_⟩; (conv => whnf)
    refine STrem.mk ⟨by decide, fun m1 hm1 => ?_⟩
    (conv => whnf); refine And.intro (by omega) ?_; (conv => whnf); refine ⟨_, IntWalk.i64_in _ (by omega), ?_⟩; (conv => whnf); refine And.intro (by omega) ?_; (conv => whnf); refine And.intro (by omega) ?_; (conv => whnf)
    refine ⟨_, ⟨by first | omega | (rw [hml]; omega) | (simp only [hml]; omega) | fail, by first | exact ga | exact hw3 | rw [hml, hj]; exact ga⟩, ?_⟩
    (conv => whnf)
    refine SApp.c rfl rfl (by assumption) (by simp only [List.length_nil, List.length_cons, List.length_map, List.nil_append]; omega) fun tk1 σ1 hm => ?_
    (conv => whnf); refine Hid.reg ?_; (conv => whnf); refine SStore.on 0 rfl ?_; (conv => whnf); refine Hid.seq ?_; refine Hid.reg ?_; (conv => whnf); refine SLoad.on 2 rfl ?_; (conv => whnf); refine SLoad.on 0 rfl ?_; (conv => whnf)
    have eq : ([] : List AV) ++ queue.map eMsg ++ [.agg [.int .i64 (IntKind.i64.wrap (next - 1)), .str [], .str [], .int .i64 ((k.toNat : Int) % 3), .int .i64 m1, .bool (decide ((k.toNat : Int) % 2 = 0)), .str w3, .int .i64 0]] = (queue ++ [(⟨IntKind.i64.wrap (next - 1), [], [], (k.toNat : Int) % 3, m1, decide ((k.toNat : Int) % 2 = 0), w3, 0⟩ : Msg)]).map eMsg := by
      simp [eMsg]
    dsimp only
    rw [eq]
    refine SCall.p (put_raw w0 clock next last l id lease most floor name topic want note acks _ .no tk1 hf hx.nacks (by simp; omega)) ?_; (conv => whnf); refine SStore.on 1 rfl ?_; (conv => whnf); refine Hid.ret ?_; (conv => whnf); refine SLoad.on 1 rfl ?_; (conv => whnf); refine .w ⟨⟨_, _, _, putS l _⟩, rfl, putS_small hs ?_, putS_len l _, ?_⟩
    · refine ⟨hx.name, hx.topic, hx.want, ?_, hx.nacks, by simp; omega⟩
      intro m hm
      rcases List.mem_append.1 hm with hm | hm
      · exact hx.attr m hm
      · obtain rfl := List.mem_singleton.1 hm
        simp
    · have h6 := le_none (le_new (.refl _) hb3) hb6
      have h7 : σ.box b7 = none := le_none (by repeat (first | exact .refl _ | assumption | refine le_setBox ?_ (by assumption))) hb7
      repeat (first | exact .refl _ | assumption | refine le_setBox ?_ (by assumption) | refine St.Le.trans ?_ (Moves.le (by assumption)))
theorem rights_any (w0 : Base) (s : Stt) (clock next : Int) (hf : s.subs.length ≤ 977343669120) (hs : ∀ x ∈ s.subs, Small x) (hn : next ≤ 9223372036854775807) (hck : -4611686018427387904 ≤ clock ∧ clock ≤ 4611686018427387904) : CallP Tryz.prog w0 10 [eStt s, .int .i64 clock, .int .i64 next] (.bool true) := by
  obtain ⟨ck, nx, ls, l⟩ := s
  dsimp only at hf hs ⊢
  refine CallP.h Ty.tok Ty.mixed Tryz.func10 rfl Tryz.ntmps10 rfl (by simp) (by decide +kernel) fun σ => ?_
  have hml : (l.map eSub).length = l.length := by simp
  (conv => whnf); refine Hid.seq ?_; refine Hid.reg ?_; (conv => whnf); refine SBox.f ?_; (conv => whnf); refine Hid.seq ?_; refine Hid.seq ?_; refine Hid.reg ?_; (conv => whnf); refine Hid.cond rfl ?_; refine SIf.x Ty.mixed (fun hc => ?_) (fun hc => ?_); refine Xc_h ?_; (conv => whnf); refine Hid.seq ?_; refine Hid.reg ?_; (conv => whnf); refine Hid.ret ?_; (conv => whnf); rotate_left
  refine Xc_h ?_; (conv => whnf); refine Hid.skip ?_; (conv => whnf); refine Hid.seq ?_; refine Hid.seq ?_; refine Hid.reg ?_; (conv => whnf); refine Hid.block ?_; refine Hid.loop ?_
  rotate_right
  · skip
    exact .p (.refl _) rfl
  skip
  refine SLoop.by Ty.mixed (fun i : Nat => l.length - i) (fun i => [(1, .int .i64 clock), (2, .int .i64 next), (3, .vp (eStt ⟨ck, nx, ls, l⟩)), (7, .int .i64 i)]) (fun _ => []) (fun i τ => i ≤ l.length ∧ τ = σ) 0 ⟨by repeat (first | exact trivial | refine ⟨by first | trivial | exact Weak.refl _ | exact Weak.tok _ _ _ | exact Weak.of_eq (congrArg (AV.int _) (by omega)) | exact Weak.of_eq (congrArg AV.bool (by fail)) | exact Weak.nils _ _ (.inr rfl), ?_⟩), .none _, Nat.zero_le _, rfl⟩ ?_
  rintro i τ ⟨hi, rfl⟩
  by_cases hlt : i < l.length
  · have ga : (l.map eSub)[i]? = some (eSub l[i]) := by simp [hlt]
    have hsm := hs _ (List.getElem_mem hlt)
    generalize l[i] = x at *
    refine Xc_h ?_; (conv => whnf); refine Hid.seq ?_; refine Hid.seq ?_; refine Hid.reg ?_; (conv => whnf); refine Hid.cond rfl ?_
    skip
    refine SIf.y Ty.mixed (decide_eq_true (by rw [hml]; omega)) ?_; refine Xc_h ?_; (conv => whnf); refine Hid.skip ?_; (conv => whnf); refine Hid.seq ?_; refine Hid.seq ?_; refine Hid.regD ?_; refine SReg.t 1 [] (by decide +kernel) ?_; (conv => whnf); (conv => whnf)
    refine ⟨_, ⟨by first | omega | (rw [hml]; omega) | (simp only [hml]; omega) | fail, by exact ga⟩, ?_⟩
    (conv => whnf); refine SCond.mk (fun hc => ?_) (fun hc => ?_); (conv => whnf); rotate_left; (conv => whnf)
    rotate_right
    refine SCond.y (by assumption) ?_; (conv => whnf); refine SCond.y (by assumption) ?_; (conv => whnf); refine SCond.y (by assumption) ?_; (conv => whnf)
    refine ⟨_, ⟨by first | omega | (rw [hml]; omega) | (simp only [hml]; omega) | fail, by exact ga⟩, ?_⟩
    (conv => whnf); refine SCond.y (by assumption) ?_; (conv => whnf); refine SCond.y (by assumption) ?_; (conv => whnf); refine SCond.y (by assumption) ?_; (conv => whnf); refine SCond.y (by assumption) ?_; (conv => whnf); refine SCall.p (by exact good_any w0 x clock next hsm hn hck) ?_; (conv => whnf); refine SCond.y (by assumption) ?_; (conv => whnf); refine SCond.y (by assumption) ?_
    (conv => whnf); refine SCond.y (by assumption) ?_; (conv => whnf); refine SCond.y (by assumption) ?_; (conv => whnf)
    refine ⟨_, ⟨by first | omega | (rw [hml]; omega) | (simp only [hml]; omega) | fail, by exact ga⟩, ?_⟩
    (conv => whnf); refine SCond.y (by assumption) ?_; (conv => whnf); refine SCond.y (by assumption) ?_; (conv => whnf); refine SCond.y (by assumption) ?_; (conv => whnf); refine SCond.y (by assumption) ?_; (conv => whnf); refine SCall.p (by exact refGood_any w0 x clock next hsm hn hck) ?_; (conv => whnf); refine SCond.y (by assumption) ?_; (conv => whnf); refine SPick.y (by assumption) ?_
    (conv => whnf); refine Hid.cond rfl ?_; refine SIf.x Ty.mixed (fun hc => ?_) (fun hc => ?_); refine Xc_h ?_; (conv => whnf); refine Hid.seq ?_; refine Hid.reg ?_; (conv => whnf); refine Hid.ret ?_; (conv => whnf); rotate_left; refine Xc_h ?_; (conv => whnf); refine Hid.skip ?_; (conv => whnf); refine Hid.reg ?_; (conv => whnf)
    rotate_right
    rotate_left; refine ⟨_, IntWalk.i64_in _ (by omega), ?_⟩; (conv => whnf); rotate_left; refine SCond.n (by assumption) ?_; (conv => whnf); refine SCond.n (by assumption) ?_; (conv => whnf); refine SCond.n (by assumption) ?_; (conv => whnf); refine SCond.n (by assumption) ?_; (conv => whnf); refine SCond.n (by assumption) ?_; (conv => whnf); refine SCond.n (by assumption) ?_; (conv => whnf)
    refine SCond.n (by assumption) ?_; (conv => whnf); refine SCond.n (by assumption) ?_; (conv => whnf); refine SCond.n (by assumption) ?_; (conv => whnf); refine SCond.n (by assumption) ?_; (conv => whnf); refine SCond.n (by assumption) ?_; (conv => whnf); refine SCond.n (by assumption) ?_; (conv => whnf); refine SCond.n (by assumption) ?_; (conv => whnf); refine SCond.n (by assumption) ?_
    (conv => whnf); refine SCond.n (by assumption) ?_; (conv => whnf); refine SCond.n (by assumption) ?_; (conv => whnf); refine SPick.n (by assumption) ?_; (conv => whnf); refine Hid.cond rfl ?_; refine SIf.n Ty.mixed (by exact rfl) ?_; refine Xc_h ?_; (conv => whnf); refine Hid.skip ?_; (conv => whnf); refine Hid.reg ?_; (conv => whnf); refine ⟨_, IntWalk.i64_in _ (by omega), ?_⟩; (conv => whnf)
    rotate_left
    all_goals first
      | exact ⟨i + 1, by omega, by repeat (first | exact trivial | refine ⟨by first | trivial | exact Weak.refl _ | exact Weak.tok _ _ _ | exact Weak.of_eq (congrArg (AV.int _) (by omega)) | exact Weak.of_eq (congrArg AV.bool (by fail)) | exact Weak.nils _ _ (.inr rfl), ?_⟩), .none _, hlt, rfl⟩
      | (exfalso; simp_all; done)
  · have hge : i = l.length := by omega
    refine Xc_h ?_; (conv => whnf); refine Hid.seq ?_; refine Hid.seq ?_; refine Hid.reg ?_; (conv => whnf); refine Hid.cond rfl ?_
    skip
    refine SIf.n Ty.mixed (decide_eq_false (by rw [hml]; omega)) ?_; refine Xc_h ?_; (conv => whnf); refine Hid.exit ?_; (conv => whnf); refine Hid.seq ?_; refine Hid.regD ?_; refine SReg.t 1 [] (by decide +kernel) ?_; (conv => whnf); (conv => whnf); refine SCall.p (by exact right_state w0 ⟨ck, nx, ls, l⟩ hs hf) ?_; (conv => whnf)
    refine SCall.p (by exact refRight_state w0 ⟨ck, nx, ls, l⟩ hs hf) ?_; (conv => whnf); refine Hid.ret ?_; (conv => whnf); exact .p (.refl _) (by simp)
end Go.Proofs.YtgliemhhnkhboaaGreatDoor
end
section
set_option linter.unusedVariables false
set_option linter.unusedSimpArgs false
set_option maxRecDepth 100000
set_option maxHeartbeats 2000000
namespace Go.Proofs.YtgliemhhnkhboaaGreatDoor
open Go.Al Go.RowKit
end Go.Proofs.YtgliemhhnkhboaaGreatDoor
end
section
set_option linter.unusedVariables false
set_option linter.unusedSimpArgs false
set_option maxRecDepth 100000
set_option maxHeartbeats 4000000
namespace Go.Proofs.YtgliemhhnkhboaaGreatDoor
open Go.Al Go.RowKit
theorem Grown.small {id clock next : Nat} {x : Sub} (h : Grown id clock next x) : Small x :=
  ⟨by have := h.nlen; omega, by have := h.topic.len; omega, by have := h.want.len; omega, fun m hm => by have := (h.msgs m hm).alen; omega, by have := h.nacks; omega, by have := h.nqueue; omega⟩
theorem stateRights_any (w0 : Base) (hL : Laid w0) (s0 : Stt) (clock next : Int) (c : List UInt8) (tc : Tok) (k : UInt8) (n : Int) (hs : Fine s0.subs) (hsm : ∀ x ∈ s0.subs, Small x) (hnx : next ≤ 9223372036854775807) (hc : c.length ≤ 9223372036854775807) (σ : St) :
    CallW Tryz.prog w0 3 [eStt s0, .int .i64 clock, .int .i64 next, .slc 1 (aBytes c) tc, .int .u8 k.toNat, .int .i64 n] σ (fun r _ => r = .bool true) := by
  have hkn := known10_any w0 hL
  have hk := k.toNat_lt
  have l1 := refLong_any w0 s0 hs
  refine CallW.h (B := []) Ty.tok Ty.mixed Tryz.func3 rfl Tryz.ntmps3 rfl (by simp) (by decide +kernel) (.nil σ) ?_
  by_cases h1 : decide (900 < longS 0 s0.subs) = true
  · (conv => whnf)
    refine Hid.seq ?_; refine Hid.reg ?_; (conv => whnf); refine SBox.f ?_; (conv => whnf); refine Hid.seq ?_; refine Hid.seq ?_; refine Hid.reg ?_; (conv => whnf); refine SCall.p (by exact l1) ?_; (conv => whnf); refine SCond.y (by assumption) ?_; (conv => whnf); refine SCond.y (by assumption) ?_; (conv => whnf); refine SPick.y (by assumption) ?_; (conv => whnf); refine Hid.cond rfl ?_
    refine SIf.y Ty.mixed (by exact rfl) ?_; refine Xc_h ?_; (conv => whnf); refine Hid.seq ?_; refine Hid.reg ?_; (conv => whnf); refine SCall.p (by exact hkn) ?_; (conv => whnf); refine Hid.ret ?_; (conv => whnf); exact .w rfl
  have h1 := Bool.eq_false_iff.2 h1
  (conv => whnf); refine Hid.seq ?_; refine Hid.reg ?_; (conv => whnf); refine SBox.f ?_; (conv => whnf); refine Hid.seq ?_; refine Hid.seq ?_; refine Hid.reg ?_; (conv => whnf); refine SCall.p (by exact l1) ?_; (conv => whnf); refine SCond.n (by assumption) ?_; (conv => whnf); refine SCall.p (by exact hkn) ?_; (conv => whnf); refine SCond.n (by assumption) ?_; (conv => whnf)
  refine SPick.n (by assumption) ?_; (conv => whnf); refine Hid.cond rfl ?_; refine SIf.n Ty.mixed (by exact rfl) ?_; refine Xc_h ?_; (conv => whnf); refine Hid.skip ?_; (conv => whnf); refine Hid.seq ?_; refine Hid.reg ?_; (conv => whnf); refine SCall.w (state_any w0 c tc hc _) rfl ?_; rintro r s' ⟨ck, nx, ls, st, rfl, hg, rfl⟩ hB; refine ⟨_, hB, ?_⟩
  obtain ⟨clk, nxt, last, l⟩ := st
  obtain rfl : clk = ck := hg.clock
  obtain rfl : nxt = nx := hg.next
  have hck := hg.ckle
  have hnx := hg.nxle
  (conv => whnf); intro b13 hb13; (conv => whnf); refine SStore.on 0 rfl ?_; (conv => whnf); refine Hid.seq ?_; refine Hid.regD ?_; refine SReg.fz 13 hb13 rfl rfl ?_
  have hf : Fine l := hg.fine
  have hll : l.length ≤ 7 := hg.len
  have hsl : ∀ x ∈ l, Small x := fun x hx => by
    obtain ⟨id, h, _⟩ := hg.subs x hx
    exact h.small
  have hql : ∀ x ∈ l, x.queue.length ≤ 1000000 := fun x hx => by
    obtain ⟨id, h, _⟩ := hg.subs x hx
    have := h.nqueue
    omega
  have q1 := rights_any w0 s0 (max 0 (min clock 18014398509481984)) next hs.n hsm (by omega) ⟨by omega, by omega⟩
  have q2 := rights_any w0 ⟨ck, nx, last, l⟩ ck nx (show l.length ≤ _ by omega) hsl (by omega) ⟨by omega, by omega⟩
  refine SReg.d [0, 1, 2, 3, 4, 5, 6, 7, 8, 9, 10, 11, 12, 13, 14, 15, 16, 17, 19, 20, 21, 22, 18, 23, 24, 25, 26, 27, 28, 29, 30, 31, 33, 34, 35, 36, 32, 37, 38, 39] [0, 0, 0, 0, 0, 0, 0, 0, 0, 0, 0, 0, 0, 0, 0, 0, 0, 0, 2, 0, 0, 0, 0, 0, 0, 0, 0, 0, 0, 0, 0, 0, 2, 0, 0, 0, 0, 0, 0, 0] (by decide +kernel) ?_; (conv => whnf); refine SCall.p (by exact q1) ?_; (conv => whnf); refine SCond.y (by exact rfl) ?_; (conv => whnf); refine SCond.y (by exact rfl) ?_; (conv => whnf); refine SCond.y (by exact rfl) ?_; (conv => whnf); refine SCond.y (by exact rfl) ?_; (conv => whnf); refine SCond.y (by exact rfl) ?_
  (conv => whnf); refine SCond.y (by exact rfl) ?_; (conv => whnf); refine SCall.p (by exact q2) ?_; (conv => whnf); refine SPick.y (by exact rfl) ?_; (conv => whnf); refine SCond.y (by exact rfl) ?_; (conv => whnf); refine SCond.y (by exact rfl) ?_; (conv => whnf); refine SCond.y (by exact rfl) ?_; (conv => whnf); refine SCond.y (by exact rfl) ?_; (conv => whnf); refine SCond.y (by exact rfl) ?_
  (conv => whnf); refine SCond.y (by exact rfl) ?_; (conv => whnf); refine SCond.y (by exact rfl) ?_; (conv => whnf); refine SCond.y (by exact rfl) ?_; (conv => whnf); refine SCall.w (bent_state w0 ⟨ck, nx, last, l⟩ k n hf hsl hql _) rfl ?_; rintro r s1 ⟨u1, rfl, hu1, hn1, hle1⟩ hB1; refine ⟨_, hB1.le hle1, ?_⟩
  dsimp only at hn1
  obtain ⟨c1, x1, a1, m1⟩ := u1
  have q3 := rights_any w0 ⟨c1, x1, a1, m1⟩ ck nx (show m1.length ≤ _ by dsimp only at hn1; omega) hu1 (by omega) ⟨by omega, by omega⟩
  (conv => whnf); refine SCond.y (by exact rfl) ?_; (conv => whnf); refine SCall.p (by exact q3) ?_; (conv => whnf); refine SPick.y (by exact rfl) ?_; (conv => whnf); refine SCond.y (by exact rfl) ?_; (conv => whnf); refine SCond.y (by exact rfl) ?_; (conv => whnf); refine SCond.y (by exact rfl) ?_; (conv => whnf); refine SCond.y (by exact rfl) ?_; (conv => whnf); refine And.intro (by omega) ?_
  (conv => whnf); refine SCond.y (by exact rfl) ?_; (conv => whnf); refine ⟨_, IntWalk.i64_in _ (by omega), ?_⟩; (conv => whnf); refine SCond.y (by exact rfl) ?_; (conv => whnf); refine ⟨_, IntWalk.i64_in _ (by omega), ?_⟩; (conv => whnf); refine SCond.y (by exact rfl) ?_; (conv => whnf); refine SCond.y (by exact rfl) ?_; (conv => whnf); refine SCond.y (by exact rfl) ?_; (conv => whnf)
  refine SCond.y (by exact rfl) ?_; (conv => whnf); refine SCond.y (by exact rfl) ?_; (conv => whnf); refine SCall.w (bent_state w0 ⟨ck, nx, last, l⟩ k ((k.toNat : Int) % 9 - 1) hf hsl hql _) rfl ?_; rintro r s2 ⟨u2, rfl, hu2, hn2, hle2⟩ hB2; refine ⟨_, hB2.le hle2, ?_⟩
  dsimp only at hn2
  obtain ⟨c2, x2, a2, m2⟩ := u2
  have q4 := rights_any w0 ⟨c2, x2, a2, m2⟩ ck nx (show m2.length ≤ _ by dsimp only at hn2; omega) hu2 (by omega) ⟨by omega, by omega⟩
  (conv => whnf); refine SCond.y (by exact rfl) ?_; (conv => whnf); refine SCall.p (by exact q4) ?_; (conv => whnf); refine SPick.y (by exact rfl) ?_; (conv => whnf); refine Hid.ret ?_; (conv => whnf); exact .w rfl
end Go.Proofs.YtgliemhhnkhboaaGreatDoor
end
section
set_option linter.unusedVariables false
set_option linter.unusedSimpArgs false
set_option maxRecDepth 100000
namespace Go.Proofs.YtgliemhhnkhboaaGreatDoor
open Go.Al Go.RowKit
section
variable {H : Type} {enc : TypeId × Value → H} {W : World}
structure MsgU (m : Msg) : Prop where
  body : m.body.length ≤ 1048576
  attr : m.attr.length ≤ 1048576
  why : m.why.length ≤ 1048576
structure SubU (x : Sub) : Prop where
  name : x.name.length ≤ 1048576
  topic : x.topic.length ≤ 1048576
  want : x.want.length ≤ 1048576
  note : x.note.length ≤ 1048576
  acks : x.acks.length ≤ 1048576
  queue : x.queue.length ≤ 1048576
  msgs : ∀ m ∈ x.queue, MsgU m
structure SttU (s : Stt) : Prop where
  clock : I64 s.clock
  next : I64 s.next
  last : I64 s.last
  subs : s.subs.length ≤ 1048576
  all : ∀ x ∈ s.subs, SubU x
theorem opensU_msg : OpensU enc Tryz.prog W 1048576 49 8 (fun m : Msg => (eMsg m).cells) MsgU :=
  (OpensU.struct (.cons rfl (OpensU.int (Q := I64) Tryz.underlying3 (by kernel_rfl) int_in) (.cons rfl (OpensU.str Tryz.underlying9 (by kernel_rfl)) (.cons rfl (OpensU.str Tryz.underlying9 (by kernel_rfl)) (.cons rfl (OpensU.int (Q := I64) Tryz.underlying3 (by kernel_rfl) int_in) (.cons rfl (OpensU.int (Q := I64) Tryz.underlying3 (by kernel_rfl) int_in) (.cons rfl (OpensU.bool Tryz.underlying4 (by kernel_rfl)) (.cons rfl (OpensU.str Tryz.underlying9 (by kernel_rfl)) (.cons rfl (OpensU.int (Q := I64) Tryz.underlying3 (by kernel_rfl) int_in) .nil)))))))) Tryz.underlying49 (by kernel_rfl)).map
    (fun (a, b, c, d, e, f, g, h, _) => (⟨a, b, c, d, e, f, g, h⟩ : Msg)) (fun _ => rfl) (fun y h => ⟨h.2.1, h.2.2.1, h.2.2.2.2.2.2.1⟩) eMsg_lay
theorem opensU_sub : OpensU enc Tryz.prog W 1048576 35 10 (fun x : Sub => (eSub x).cells) SubU :=
  (OpensU.struct (.cons rfl (OpensU.int (Q := I64) Tryz.underlying3 (by kernel_rfl) int_in) (.cons rfl (OpensU.str Tryz.underlying9 (by kernel_rfl)) (.cons rfl (OpensU.str Tryz.underlying9 (by kernel_rfl)) (.cons rfl (OpensU.str Tryz.underlying9 (by kernel_rfl)) (.cons rfl (OpensU.int (Q := I64) Tryz.underlying3 (by kernel_rfl) int_in) (.cons rfl (OpensU.int (Q := I64) Tryz.underlying3 (by kernel_rfl) int_in) (.cons rfl (OpensU.int (Q := I64) Tryz.underlying3 (by kernel_rfl) int_in) (.cons rfl (OpensU.slice (OpensU.int (Q := I64) Tryz.underlying3 (by kernel_rfl) int_in) (fun n => .int .i64 n) (fun _ => rfl) (by decide) Tryz.underlying32 (by kernel_rfl)) (.cons rfl (OpensU.slice opensU_msg eMsg (fun _ => rfl) (by decide) Tryz.underlying33 (by kernel_rfl)) (.cons rfl (OpensU.str Tryz.underlying9 (by kernel_rfl)) .nil)))))))))) Tryz.underlying35 (by kernel_rfl)).map
    (fun (a, b, c, d, e, f, g, h, i, j, _) => (⟨a, b, c, d, e, f, g, h, i, j⟩ : Sub)) (fun _ => rfl) (fun y h => ⟨h.2.1, h.2.2.1, h.2.2.2.1, h.2.2.2.2.2.2.2.2.2.1, h.2.2.2.2.2.2.2.1.1, h.2.2.2.2.2.2.2.2.1.1, h.2.2.2.2.2.2.2.2.1.2⟩) eSub_lay
theorem opensU_state : OpensU enc Tryz.prog W 1048576 24 4 (fun s : Stt => (eStt s).cells) SttU :=
  (OpensU.struct (.cons rfl (OpensU.int (Q := I64) Tryz.underlying3 (by kernel_rfl) int_in) (.cons rfl (OpensU.int (Q := I64) Tryz.underlying3 (by kernel_rfl) int_in) (.cons rfl (OpensU.int (Q := I64) Tryz.underlying3 (by kernel_rfl) int_in) (.cons rfl (OpensU.slice opensU_sub eSub (fun _ => rfl) (by decide) Tryz.underlying22 (by kernel_rfl)) .nil)))) Tryz.underlying24 (by kernel_rfl)).map
    (fun (a, b, c, d, _) => (⟨a, b, c, d⟩ : Stt)) (fun _ => rfl) (fun y h => ⟨h.1, h.2.1, h.2.2.1, h.2.2.2.1.1, h.2.2.2.1.2⟩) eStt_lay
end
theorem SubU.small {x : Sub} (h : SubU x) : Small x := ⟨by have := h.name; omega, by have := h.topic; omega, by have := h.want; omega, fun m hm => by have := (h.msgs m hm).attr; omega, by have := h.acks; omega, by have := h.queue; omega⟩
theorem stateRights_row_any (w0 : Base) (hL : Laid w0) (s : Stt) (clock next : Int) (c : List UInt8) (tc : Tok) (k : UInt8) (n : Int) (hs : SttU s) (hnx : I64 next) (hc : c.length ≤ 9223372036854775807) (σ : St) :
    CallW Tryz.prog w0 3 [eStt s, .int .i64 clock, .int .i64 next, .slc 1 (aBytes c) tc, .int .u8 k.toNat, .int .i64 n] σ (fun r _ => r = .bool true) :=
  stateRights_any w0 hL s clock next c tc k n ⟨by have := hs.subs; omega, fun x hx => by have := (hs.all x hx).acks; omega, fun x hx => by have := (hs.all x hx).queue; omega⟩ (fun x hx => (hs.all x hx).small) hnx.2 hc σ
end Go.Proofs.YtgliemhhnkhboaaGreatDoor
end
