/- The law StateOrder returns true for every input, and its arguments read as before: the tied card. No conditions. This is part 5 of 6 of its proof; the parts are read in order. No conditions. -/
import Derived.Test.YtgliemhhnkhboaaGreatDoorCStateOrderP4
section
set_option linter.unusedVariables false
set_option linter.unusedSimpArgs false
set_option maxRecDepth 100000
set_option maxHeartbeats 2000000
namespace Go.Proofs.YtgliemhhnkhboaaGreatDoor
open Go.Al Go.RowKit
theorem equalI_any (w0 : Base) (a b : List Int) (ta tb : Tok) (ha : a.length ≤ 1000000000) : CallP Tryz.prog w0 57 [.slc 1 (a.map (.int .i64)) ta, .slc 1 (b.map (.int .i64)) tb] (.bool (decide (a = b))) := by
  refine CallP.h Ty.tok Ty.mixed Tryz.func57 rfl Tryz.ntmps57 rfl (by simp) (by decide +kernel) fun σ => ?_
  (conv => whnf); refine Hid.seq ?_; refine Hid.reg ?_; (conv => whnf); refine Hid.seq ?_; refine Hid.seq ?_; refine Hid.reg ?_; (conv => whnf); refine Hid.cond rfl ?_
  skip
  refine SIf.x Ty.mixed (fun hc => ?_) (fun hc => ?_); refine Xc_h ?_; (conv => whnf); refine Hid.seq ?_; refine Hid.reg ?_; (conv => whnf); refine Hid.ret ?_; (conv => whnf); rotate_left; refine Xc_h ?_; (conv => whnf); refine Hid.skip ?_; (conv => whnf); refine Hid.seq ?_; refine Hid.seq ?_; refine Hid.reg ?_; (conv => whnf); refine Hid.block ?_; refine Hid.loop ?_
  rotate_right
  · skip
    have : ¬ a = b := by rintro rfl; simp at hc
    exact .p (.refl _) (by simp [this])
  have hlen : a.length = b.length := by simp at hc; omega
  clear hc
  skip
  refine SLoop.by Ty.mixed (fun i : Nat => a.length - i) (fun i => [(0, .slc 1 (a.map (.int .i64)) ta), (1, .slc 1 (b.map (.int .i64)) tb), (12, .int .i64 a.length), (13, .int .i64 i)]) (fun _ => []) (fun i τ => i ≤ a.length ∧ a.take i = b.take i ∧ τ = σ) 0 ⟨?_, .none _, Nat.zero_le _, by simp, rfl⟩ ?_
  · show xWeak [(0, .slc 1 (a.map (.int .i64)) ta), (1, .slc 1 (b.map (.int .i64)) tb), (12, .int .i64 a.length), (13, .int .i64 (0 : Nat))] _
    rw [show a.length = (a.map (AV.int .i64)).length by simp]
    repeat (first | exact trivial | refine ⟨by first | trivial | exact Weak.refl _ | exact Weak.tok _ _ _ | exact Weak.of_eq (congrArg (AV.int _) (by omega)) | exact Weak.of_eq (congrArg AV.bool (by fail)) | exact Weak.nils _ _ (.inr rfl), ?_⟩)
  rintro i τ ⟨hi, htk, rfl⟩; refine Xc_h ?_; (conv => whnf); refine Hid.seq ?_; refine Hid.reg ?_; (conv => whnf); refine Hid.seq ?_; refine Hid.cond rfl ?_
  skip
  refine SIf.x Ty.mixed (fun hc => ?_) (fun hc => ?_); refine Xc_h ?_; (conv => whnf); refine Hid.skip ?_; (conv => whnf); refine Hid.seq ?_; refine Hid.seq ?_; refine Hid.reg ?_; (conv => whnf); refine Hid.seq ?_; refine Hid.regD ?_; rotate_left; refine Xc_h ?_; (conv => whnf); refine Hid.exit ?_; (conv => whnf); refine Hid.seq ?_; refine Hid.reg ?_; (conv => whnf); refine Hid.ret ?_
  (conv => whnf)
  rotate_right
  · have hlt : i < a.length := by simp at hc; omega
    have ga : (a.map (AV.int .i64))[i]? = some (.int .i64 a[i]) := by simp [hlt]
    have gb : (b.map (AV.int .i64))[i]? = some (.int .i64 (b[i]'(by omega))) := by simp [List.getElem?_eq_getElem (show i < b.length by omega)]
    have ht := take_succ_iff hlt (show i < b.length by omega) htk
    have hab : a = b → a[i] = b[i]'(by omega) := fun e => by subst e; rfl
    generalize a[i] = x at *
    generalize b[i]'(by omega) = y at *
    refine SReg.t 0 [] (by decide +kernel) ?_; (conv => whnf)
    refine ⟨_, ⟨by first | omega | (simp only [List.length_map]; omega) | fail, by first | exact ga | exact gb | fail⟩, ?_⟩
    (conv => whnf)
    refine ⟨_, ⟨by first | omega | (simp only [List.length_map]; omega) | fail, by first | exact ga | exact gb | fail⟩, ?_⟩
    (conv => whnf); refine Hid.cond rfl ?_; refine SIf.x Ty.mixed (fun hc => ?_) (fun hc => ?_); refine Xc_h ?_; (conv => whnf); refine Hid.seq ?_; refine Hid.reg ?_; (conv => whnf); refine Hid.ret ?_; (conv => whnf); rotate_left; refine Xc_h ?_; (conv => whnf); refine Hid.skip ?_; (conv => whnf); refine Hid.reg ?_; (conv => whnf)
    rotate_right
    · skip
      have : ¬ a = b := fun e => by have := hab e; simp [this] at hc
      exact .p (.refl _) (by simp [this])
    · refine ⟨_, IntWalk.i64_in _ (by omega), ?_⟩
      (conv => whnf)
      have hxy : x = y := by simpa using hc
      exact ⟨i + 1, by omega, by repeat (first | exact trivial | refine ⟨by first | trivial | exact Weak.refl _ | exact Weak.tok _ _ _ | exact Weak.of_eq (congrArg (AV.int _) (by omega)) | exact Weak.of_eq (congrArg AV.bool (by fail)) | exact Weak.nils _ _ (.inr rfl), ?_⟩), .none _, hlt, ht.2 hxy, rfl⟩
  · have hge : i = a.length := by simp at hc; omega
    skip
    have : a = b := by rw [hge, List.take_length, hlen, List.take_length] at htk; exact htk
    exact .p (.refl _) (by simp [this])
theorem equalM_any (w0 : Base) (a b : List Msg) (ta tb : Tok) (ha : a.length ≤ 1000000000) : CallP Tryz.prog w0 58 [.slc 8 (a.map eMsg) ta, .slc 8 (b.map eMsg) tb] (.bool (decide (a = b))) := by
  refine CallP.h Ty.tok Ty.mixed Tryz.func58 rfl Tryz.ntmps58 rfl (by simp) (by decide +kernel) fun σ => ?_
  (conv => whnf); refine Hid.seq ?_; refine Hid.reg ?_; (conv => whnf); refine Hid.seq ?_; refine Hid.seq ?_; refine Hid.reg ?_; (conv => whnf); refine Hid.cond rfl ?_
  skip
  refine SIf.x Ty.mixed (fun hc => ?_) (fun hc => ?_); refine Xc_h ?_; (conv => whnf); refine Hid.seq ?_; refine Hid.reg ?_; (conv => whnf); refine Hid.ret ?_; (conv => whnf); rotate_left; refine Xc_h ?_; (conv => whnf); refine Hid.skip ?_; (conv => whnf); refine Hid.seq ?_; refine Hid.seq ?_; refine Hid.reg ?_; (conv => whnf); refine Hid.block ?_; refine Hid.loop ?_
  rotate_right
  · skip
    have : ¬ a = b := by rintro rfl; simp at hc
    exact .p (.refl _) (by simp [this])
  have hlen : a.length = b.length := by simp at hc; omega
  clear hc
  skip
  refine SLoop.by Ty.mixed (fun i : Nat => a.length - i) (fun i => [(0, .slc 8 (a.map eMsg) ta), (1, .slc 8 (b.map eMsg) tb), (12, .int .i64 a.length), (13, .int .i64 i)]) (fun _ => []) (fun i τ => i ≤ a.length ∧ a.take i = b.take i ∧ τ = σ) 0 ⟨?_, .none _, Nat.zero_le _, by simp, rfl⟩ ?_
  · show xWeak [(0, .slc 8 (a.map eMsg) ta), (1, .slc 8 (b.map eMsg) tb), (12, .int .i64 a.length), (13, .int .i64 (0 : Nat))] _
    rw [show a.length = (a.map eMsg).length by simp]
    repeat (first | exact trivial | refine ⟨by first | trivial | exact Weak.refl _ | exact Weak.tok _ _ _ | exact Weak.of_eq (congrArg (AV.int _) (by omega)) | exact Weak.of_eq (congrArg AV.bool (by fail)) | exact Weak.nils _ _ (.inr rfl), ?_⟩)
  rintro i τ ⟨hi, htk, rfl⟩; refine Xc_h ?_; (conv => whnf); refine Hid.seq ?_; refine Hid.reg ?_; (conv => whnf); refine Hid.seq ?_; refine Hid.cond rfl ?_
  skip
  refine SIf.x Ty.mixed (fun hc => ?_) (fun hc => ?_); refine Xc_h ?_; (conv => whnf); refine Hid.skip ?_; (conv => whnf); refine Hid.seq ?_; refine Hid.seq ?_; refine Hid.reg ?_; (conv => whnf); refine Hid.seq ?_; refine Hid.regD ?_; rotate_left; refine Xc_h ?_; (conv => whnf); refine Hid.exit ?_; (conv => whnf); refine Hid.seq ?_; refine Hid.reg ?_; (conv => whnf); refine Hid.ret ?_
  (conv => whnf)
  rotate_right
  · have hlt : i < a.length := by simp at hc; omega
    have ga : (a.map eMsg)[i]? = some (eMsg a[i]) := by simp [hlt]
    have gb : (b.map eMsg)[i]? = some (eMsg (b[i]'(by omega))) := by simp [List.getElem?_eq_getElem (show i < b.length by omega)]
    have ht := take_succ_iff hlt (show i < b.length by omega) htk
    have hab : a = b → a[i] = b[i]'(by omega) := fun e => by subst e; rfl
    generalize a[i] = x at *
    generalize b[i]'(by omega) = y at *
    refine SReg.t 0 [] (by decide +kernel) ?_; (conv => whnf)
    refine ⟨_, ⟨by first | omega | (simp only [List.length_map]; omega) | fail, by first | exact ga | exact gb | fail⟩, ?_⟩
    (conv => whnf)
    refine ⟨_, ⟨by first | omega | (simp only [List.length_map]; omega) | fail, by first | exact ga | exact gb | fail⟩, ?_⟩
    (conv => whnf); refine SEqA.on (fun fs hfs => flat_msg x hfs) (eq_msg x y) rfl ?_; (conv => whnf); refine Hid.cond rfl ?_; refine SIf.x Ty.mixed (fun hc => ?_) (fun hc => ?_); refine Xc_h ?_; (conv => whnf); refine Hid.seq ?_; refine Hid.reg ?_; (conv => whnf); refine Hid.ret ?_; (conv => whnf); rotate_left; refine Xc_h ?_; (conv => whnf); refine Hid.skip ?_; (conv => whnf); refine Hid.reg ?_
    (conv => whnf)
    rotate_right
    · skip
      have : ¬ a = b := fun e => by have := hab e; simp [this] at hc
      exact .p (.refl _) (by simp [this])
    · refine ⟨_, IntWalk.i64_in _ (by omega), ?_⟩
      (conv => whnf)
      have hxy : x = y := by simpa using hc
      exact ⟨i + 1, by omega, by repeat (first | exact trivial | refine ⟨by first | trivial | exact Weak.refl _ | exact Weak.tok _ _ _ | exact Weak.of_eq (congrArg (AV.int _) (by omega)) | exact Weak.of_eq (congrArg AV.bool (by fail)) | exact Weak.nils _ _ (.inr rfl), ?_⟩), .none _, hlt, ht.2 hxy, rfl⟩
  · have hge : i = a.length := by simp at hc; omega
    skip
    have : a = b := by rw [hge, List.take_length, hlen, List.take_length] at htk; exact htk
    exact .p (.refl _) (by simp [this])
theorem same_any (w0 : Base) (x y : Sub) (ha : x.acks.length ≤ 1000000000) (hq : x.queue.length ≤ 1000000000) : CallP Tryz.prog w0 39 [eSub x, eSub y] (.bool (decide (x = y))) := by
  refine CallP.h Ty.tok Ty.mixed Tryz.func39 rfl Tryz.ntmps39 rfl (by simp) (by decide +kernel) fun σ => ?_
  (conv => whnf); refine Hid.seq ?_; refine Hid.reg ?_; (conv => whnf); refine SBox.f ?_; (conv => whnf); refine SBox.f ?_; (conv => whnf); refine Hid.seq ?_; refine Hid.seq ?_; refine Hid.reg ?_; (conv => whnf); refine SCall.p (by exact equalI_any w0 _ _ _ _ ha) ?_; (conv => whnf); refine SCond.mk (fun hc => ?_) (fun hc => ?_); (conv => whnf); rotate_left; (conv => whnf)
  rotate_right
  refine SCond.y (by assumption) ?_; (conv => whnf); refine SCond.y (by assumption) ?_; (conv => whnf); refine SCond.y (by assumption) ?_; (conv => whnf); refine SCond.y (by assumption) ?_; (conv => whnf); refine SCond.y (by assumption) ?_; (conv => whnf); refine SPick.y (by assumption) ?_; (conv => whnf); refine Hid.cond rfl ?_; refine SIf.y Ty.mixed (by exact rfl) ?_; refine Xc_h ?_
  (conv => whnf); refine Hid.seq ?_; refine Hid.reg ?_; (conv => whnf); refine Hid.ret ?_; (conv => whnf); rotate_left; refine SCond.n (by assumption) ?_; (conv => whnf); refine SCond.n (by assumption) ?_; (conv => whnf); refine SCond.n (by assumption) ?_; (conv => whnf); refine SCond.n (by assumption) ?_; (conv => whnf); refine SCall.p (by exact equalM_any w0 _ _ _ _ hq) ?_; (conv => whnf)
  refine SCond.n (by assumption) ?_; (conv => whnf); refine SPick.n (by assumption) ?_; (conv => whnf); refine Hid.cond rfl ?_; refine SIf.x Ty.mixed (fun hc => ?_) (fun hc => ?_); refine Xc_h ?_; (conv => whnf); refine Hid.seq ?_; refine Hid.reg ?_; (conv => whnf); refine Hid.ret ?_; (conv => whnf); rotate_left; refine Xc_h ?_; (conv => whnf); refine Hid.skip ?_; (conv => whnf); refine Hid.seq ?_
  refine Hid.reg ?_; (conv => whnf)
  rotate_right
  rotate_left; refine SCond.mk (fun hc => ?_) (fun hc => ?_); (conv => whnf); rotate_left; (conv => whnf)
  rotate_right
  refine SCond.y (by assumption) ?_; (conv => whnf); refine SCond.y (by assumption) ?_; (conv => whnf); refine SCond.y (by assumption) ?_; (conv => whnf); refine SCond.y (by assumption) ?_; (conv => whnf); refine SPick.y (by assumption) ?_; (conv => whnf); refine SCond.mk (fun hc => ?_) (fun hc => ?_); (conv => whnf); rotate_left; (conv => whnf)
  rotate_right
  refine SCond.y (by assumption) ?_; (conv => whnf); refine SCond.y (by assumption) ?_; (conv => whnf); refine SCond.y (by assumption) ?_; (conv => whnf); refine SCond.y (by assumption) ?_; (conv => whnf); refine SPick.y (by assumption) ?_; (conv => whnf); refine SCond.mk (fun hc => ?_) (fun hc => ?_); (conv => whnf); rotate_left; (conv => whnf)
  rotate_right
  refine SCond.y (by assumption) ?_; (conv => whnf); refine SCond.y (by assumption) ?_; (conv => whnf); refine SCond.y (by assumption) ?_; (conv => whnf); refine SCond.y (by assumption) ?_; (conv => whnf); refine SPick.y (by assumption) ?_; (conv => whnf); refine SCond.mk (fun hc => ?_) (fun hc => ?_); (conv => whnf); rotate_left; (conv => whnf)
  rotate_right
  refine SCond.y (by assumption) ?_; (conv => whnf); refine SCond.y (by assumption) ?_; (conv => whnf); refine SCond.y (by assumption) ?_; (conv => whnf); refine SCond.y (by assumption) ?_; (conv => whnf); refine SPick.y (by assumption) ?_; (conv => whnf); refine SCond.mk (fun hc => ?_) (fun hc => ?_); (conv => whnf); rotate_left; (conv => whnf)
  rotate_right
  refine SCond.y (by assumption) ?_; (conv => whnf); refine SCond.y (by assumption) ?_; (conv => whnf); refine SCond.y (by assumption) ?_; (conv => whnf); refine SCond.y (by assumption) ?_; (conv => whnf); refine SPick.y (by assumption) ?_; (conv => whnf); refine SCond.mk (fun hc => ?_) (fun hc => ?_); (conv => whnf); rotate_left; (conv => whnf)
  rotate_right
  refine SCond.y (by assumption) ?_; (conv => whnf); refine SCond.y (by assumption) ?_; (conv => whnf); refine SCond.y (by assumption) ?_; (conv => whnf); refine SCond.y (by assumption) ?_; (conv => whnf); refine SPick.y (by assumption) ?_; (conv => whnf); refine SCond.mk (fun hc => ?_) (fun hc => ?_); (conv => whnf); rotate_left; (conv => whnf)
  rotate_right
  refine SCond.y (by assumption) ?_; (conv => whnf); refine SCond.y (by assumption) ?_; (conv => whnf); refine SCond.y (by assumption) ?_; (conv => whnf); refine SCond.y (by assumption) ?_; (conv => whnf); refine SPick.y (by assumption) ?_; (conv => whnf); refine Hid.ret ?_; (conv => whnf); rotate_left; refine SCond.n (by assumption) ?_; (conv => whnf); refine SCond.n (by assumption) ?_
  (conv => whnf); refine SCond.n (by assumption) ?_; (conv => whnf); refine SCond.n (by assumption) ?_; (conv => whnf); refine SPick.n (by assumption) ?_; (conv => whnf); refine Hid.ret ?_; (conv => whnf); rotate_left; refine SCond.n (by assumption) ?_; (conv => whnf); refine SCond.n (by assumption) ?_; (conv => whnf); refine SCond.n (by assumption) ?_; (conv => whnf)
  refine SCond.n (by assumption) ?_; (conv => whnf); refine SPick.n (by assumption) ?_; (conv => whnf); refine SCond.n (by exact rfl) ?_; (conv => whnf); refine SCond.n (by exact rfl) ?_; (conv => whnf); refine SCond.n (by exact rfl) ?_; (conv => whnf); refine SCond.n (by exact rfl) ?_; (conv => whnf); refine SCond.n (by exact rfl) ?_; (conv => whnf); refine SPick.n (by exact rfl) ?_
  (conv => whnf); refine Hid.ret ?_; (conv => whnf); rotate_left; refine SCond.n (by assumption) ?_; (conv => whnf); refine SCond.n (by assumption) ?_; (conv => whnf); refine SCond.n (by assumption) ?_; (conv => whnf); refine SCond.n (by assumption) ?_; (conv => whnf); refine SPick.n (by assumption) ?_; (conv => whnf); refine SCond.n (by exact rfl) ?_; (conv => whnf)
  refine SCond.n (by exact rfl) ?_; (conv => whnf); refine SCond.n (by exact rfl) ?_; (conv => whnf); refine SCond.n (by exact rfl) ?_; (conv => whnf); refine SCond.n (by exact rfl) ?_; (conv => whnf); refine SPick.n (by exact rfl) ?_; (conv => whnf); refine SCond.n (by exact rfl) ?_; (conv => whnf); refine SCond.n (by exact rfl) ?_; (conv => whnf); refine SCond.n (by exact rfl) ?_; (conv => whnf)
  refine SCond.n (by exact rfl) ?_; (conv => whnf); refine SCond.n (by exact rfl) ?_; (conv => whnf); refine SPick.n (by exact rfl) ?_; (conv => whnf); refine Hid.ret ?_; (conv => whnf); rotate_left; refine SCond.n (by assumption) ?_; (conv => whnf); refine SCond.n (by assumption) ?_; (conv => whnf); refine SCond.n (by assumption) ?_; (conv => whnf); refine SCond.n (by assumption) ?_
  (conv => whnf); refine SPick.n (by assumption) ?_; (conv => whnf); refine SCond.n (by exact rfl) ?_; (conv => whnf); refine SCond.n (by exact rfl) ?_; (conv => whnf); refine SCond.n (by exact rfl) ?_; (conv => whnf); refine SCond.n (by exact rfl) ?_; (conv => whnf); refine SCond.n (by exact rfl) ?_; (conv => whnf); refine SPick.n (by exact rfl) ?_; (conv => whnf); refine SCond.n (by exact rfl) ?_
  (conv => whnf); refine SCond.n (by exact rfl) ?_; (conv => whnf); refine SCond.n (by exact rfl) ?_; (conv => whnf); refine SCond.n (by exact rfl) ?_; (conv => whnf); refine SCond.n (by exact rfl) ?_; (conv => whnf); refine SPick.n (by exact rfl) ?_; (conv => whnf); refine SCond.n (by exact rfl) ?_; (conv => whnf); refine SCond.n (by exact rfl) ?_; (conv => whnf); refine SCond.n (by exact rfl) ?_
  (conv => whnf); refine SCond.n (by exact rfl) ?_; (conv => whnf); refine SCond.n (by exact rfl) ?_; (conv => whnf); refine SPick.n (by exact rfl) ?_; (conv => whnf); refine Hid.ret ?_; (conv => whnf); rotate_left; refine SCond.n (by assumption) ?_; (conv => whnf); refine SCond.n (by assumption) ?_; (conv => whnf); refine SCond.n (by assumption) ?_; (conv => whnf)
  refine SCond.n (by assumption) ?_; (conv => whnf); refine SPick.n (by assumption) ?_; (conv => whnf); refine SCond.n (by exact rfl) ?_; (conv => whnf); refine SCond.n (by exact rfl) ?_; (conv => whnf); refine SCond.n (by exact rfl) ?_; (conv => whnf); refine SCond.n (by exact rfl) ?_; (conv => whnf); refine SCond.n (by exact rfl) ?_; (conv => whnf); refine SPick.n (by exact rfl) ?_
  (conv => whnf); refine SCond.n (by exact rfl) ?_; (conv => whnf); refine SCond.n (by exact rfl) ?_; (conv => whnf); refine SCond.n (by exact rfl) ?_; (conv => whnf); refine SCond.n (by exact rfl) ?_; (conv => whnf); refine SCond.n (by exact rfl) ?_; (conv => whnf); refine SPick.n (by exact rfl) ?_; (conv => whnf); refine SCond.n (by exact rfl) ?_; (conv => whnf); refine SCond.n (by exact rfl) ?_
  (conv => whnf); refine SCond.n (by exact rfl) ?_; (conv => whnf); refine SCond.n (by exact rfl) ?_; (conv => whnf); refine SCond.n (by exact rfl) ?_; (conv => whnf); refine SPick.n (by exact rfl) ?_; (conv => whnf); refine SCond.n (by exact rfl) ?_; (conv => whnf); refine SCond.n (by exact rfl) ?_; (conv => whnf); refine SCond.n (by exact rfl) ?_; (conv => whnf); refine SCond.n (by exact rfl) ?_
  (conv => whnf); refine SCond.n (by exact rfl) ?_; (conv => whnf); refine SPick.n (by exact rfl) ?_; (conv => whnf); refine Hid.ret ?_; (conv => whnf); rotate_left; refine SCond.n (by assumption) ?_; (conv => whnf); refine SCond.n (by assumption) ?_; (conv => whnf); refine SCond.n (by assumption) ?_; (conv => whnf); refine SCond.n (by assumption) ?_; (conv => whnf)
  refine SPick.n (by assumption) ?_; (conv => whnf); refine SCond.n (by exact rfl) ?_; (conv => whnf); refine SCond.n (by exact rfl) ?_; (conv => whnf); refine SCond.n (by exact rfl) ?_; (conv => whnf); refine SCond.n (by exact rfl) ?_; (conv => whnf); refine SCond.n (by exact rfl) ?_; (conv => whnf); refine SPick.n (by exact rfl) ?_; (conv => whnf); refine SCond.n (by exact rfl) ?_; (conv => whnf)
  refine SCond.n (by exact rfl) ?_; (conv => whnf); refine SCond.n (by exact rfl) ?_; (conv => whnf); refine SCond.n (by exact rfl) ?_; (conv => whnf); refine SCond.n (by exact rfl) ?_; (conv => whnf); refine SPick.n (by exact rfl) ?_; (conv => whnf); refine SCond.n (by exact rfl) ?_; (conv => whnf); refine SCond.n (by exact rfl) ?_; (conv => whnf); refine SCond.n (by exact rfl) ?_; (conv => whnf)
  refine SCond.n (by exact rfl) ?_; (conv => whnf); refine SCond.n (by exact rfl) ?_; (conv => whnf); refine SPick.n (by exact rfl) ?_; (conv => whnf); refine SCond.n (by exact rfl) ?_; (conv => whnf); refine SCond.n (by exact rfl) ?_; (conv => whnf); refine SCond.n (by exact rfl) ?_; (conv => whnf); refine SCond.n (by exact rfl) ?_; (conv => whnf); refine SCond.n (by exact rfl) ?_; (conv => whnf)
  refine SPick.n (by exact rfl) ?_; (conv => whnf); refine SCond.n (by exact rfl) ?_; (conv => whnf); refine SCond.n (by exact rfl) ?_; (conv => whnf); refine SCond.n (by exact rfl) ?_; (conv => whnf); refine SCond.n (by exact rfl) ?_; (conv => whnf); refine SCond.n (by exact rfl) ?_; (conv => whnf); refine SPick.n (by exact rfl) ?_; (conv => whnf); refine Hid.ret ?_; (conv => whnf); rotate_left
  refine SCond.n (by assumption) ?_; (conv => whnf); refine SCond.n (by assumption) ?_; (conv => whnf); refine SCond.n (by assumption) ?_; (conv => whnf); refine SCond.n (by assumption) ?_; (conv => whnf); refine SPick.n (by assumption) ?_; (conv => whnf); refine SCond.n (by exact rfl) ?_; (conv => whnf); refine SCond.n (by exact rfl) ?_; (conv => whnf); refine SCond.n (by exact rfl) ?_
  (conv => whnf); refine SCond.n (by exact rfl) ?_; (conv => whnf); refine SCond.n (by exact rfl) ?_; (conv => whnf); refine SPick.n (by exact rfl) ?_; (conv => whnf); refine SCond.n (by exact rfl) ?_; (conv => whnf); refine SCond.n (by exact rfl) ?_; (conv => whnf); refine SCond.n (by exact rfl) ?_; (conv => whnf); refine SCond.n (by exact rfl) ?_; (conv => whnf); refine SCond.n (by exact rfl) ?_
  (conv => whnf); refine SPick.n (by exact rfl) ?_; (conv => whnf); refine SCond.n (by exact rfl) ?_; (conv => whnf); refine SCond.n (by exact rfl) ?_; (conv => whnf); refine SCond.n (by exact rfl) ?_; (conv => whnf); refine SCond.n (by exact rfl) ?_; (conv => whnf); refine SCond.n (by exact rfl) ?_; (conv => whnf); refine SPick.n (by exact rfl) ?_; (conv => whnf); refine SCond.n (by exact rfl) ?_
  (conv => whnf); refine SCond.n (by exact rfl) ?_; (conv => whnf); refine SCond.n (by exact rfl) ?_; (conv => whnf); refine SCond.n (by exact rfl) ?_; (conv => whnf); refine SCond.n (by exact rfl) ?_; (conv => whnf); refine SPick.n (by exact rfl) ?_; (conv => whnf); refine SCond.n (by exact rfl) ?_; (conv => whnf); refine SCond.n (by exact rfl) ?_; (conv => whnf); refine SCond.n (by exact rfl) ?_
  (conv => whnf); refine SCond.n (by exact rfl) ?_; (conv => whnf); refine SCond.n (by exact rfl) ?_; (conv => whnf); refine SPick.n (by exact rfl) ?_; (conv => whnf); refine SCond.n (by exact rfl) ?_; (conv => whnf); refine SCond.n (by exact rfl) ?_; (conv => whnf); refine SCond.n (by exact rfl) ?_; (conv => whnf); refine SCond.n (by exact rfl) ?_; (conv => whnf); refine SCond.n (by exact rfl) ?_
  (conv => whnf); refine SPick.n (by exact rfl) ?_; (conv => whnf); refine Hid.ret ?_; (conv => whnf); rotate_left
  all_goals
    refine .p (.refl _) (congrArg AV.bool ?_); clear ha hq
    rw [Bool.eq_iff_iff]
    have he : x = y ↔ (x.id = y.id ∧ x.name = y.name ∧ x.topic = y.topic ∧ x.want = y.want ∧ x.lease = y.lease ∧ x.most = y.most ∧ x.floor = y.floor ∧ x.acks = y.acks ∧ x.queue = y.queue ∧ x.note = y.note) := ⟨fun e => by subst e; simp, fun ⟨h1, h2, h3, h4, h5, h6, h7, h8, h9, h10⟩ => sub_ext h1 h2 h3 h4 h5 h6 h7 h8 h9 h10⟩
    simp only [decide_eq_true_eq, he]
    simp_all
end Go.Proofs.YtgliemhhnkhboaaGreatDoor
end
section
set_option linter.unusedVariables false
set_option linter.unusedSimpArgs false
set_option maxRecDepth 100000
set_option maxHeartbeats 2000000
namespace Go.Proofs.YtgliemhhnkhboaaGreatDoor
open Go.Al Go.RowKit
theorem equalS_any (w0 : Base) (a b : List Sub) (ta tb : Tok) (hf : Fine a) : CallP Tryz.prog w0 38 [.slc 10 (a.map eSub) ta, .slc 10 (b.map eSub) tb, .fn (.func 39) [] []] (.bool (decide (a = b))) := by
  have ha := hf.n
  refine CallP.h Ty.tok Ty.mixed Tryz.func38 rfl Tryz.ntmps38 rfl (by simp) (by decide +kernel) fun σ => ?_
  (conv => whnf); refine Hid.seq ?_; refine Hid.reg ?_; (conv => whnf); refine Hid.seq ?_; refine Hid.seq ?_; refine Hid.reg ?_; (conv => whnf); refine Hid.cond rfl ?_
  skip
  refine SIf.x Ty.mixed (fun hc => ?_) (fun hc => ?_); refine Xc_h ?_; (conv => whnf); refine Hid.seq ?_; refine Hid.reg ?_; (conv => whnf); refine Hid.ret ?_; (conv => whnf); rotate_left; refine Xc_h ?_; (conv => whnf); refine Hid.skip ?_; (conv => whnf); refine Hid.seq ?_; refine Hid.seq ?_; refine Hid.reg ?_; (conv => whnf); refine Hid.block ?_; refine Hid.loop ?_
  rotate_right
  · skip
    have : ¬ a = b := by rintro rfl; simp at hc
    exact .p (.refl _) (by simp [this])
  have hlen : a.length = b.length := by simp at hc; omega
  clear hc
  skip
  refine SLoop.by Ty.mixed (fun i : Nat => a.length - i) (fun i => [(1, .slc 10 (b.map eSub) tb), (2, .fn (.func 39) [] []), (15, .slc 10 (a.map eSub) ta), (16, .int .i64 a.length), (17, .int .i64 i)]) (fun _ => []) (fun i τ => i ≤ a.length ∧ a.take i = b.take i ∧ St.Le σ τ) 0 ⟨?_, .none _, Nat.zero_le _, by simp, .refl _⟩ ?_
  · show xWeak [(1, .slc 10 (b.map eSub) tb), (2, .fn (.func 39) [] []), (15, .slc 10 (a.map eSub) ta), (16, .int .i64 a.length), (17, .int .i64 (0 : Nat))] _
    rw [show a.length = (a.map eSub).length by simp]
    repeat (first | exact trivial | refine ⟨by first | trivial | exact Weak.refl _ | exact Weak.tok _ _ _ | exact Weak.of_eq (congrArg (AV.int _) (by omega)) | exact Weak.of_eq (congrArg AV.bool (by fail)) | exact Weak.nils _ _ (.inr rfl), ?_⟩)
  rintro i τ ⟨hi, htk, hle⟩; refine Xc_h ?_; (conv => whnf); refine Hid.seq ?_; refine Hid.reg ?_; (conv => whnf); refine Hid.seq ?_; refine Hid.cond rfl ?_
  skip
  refine SIf.x Ty.mixed (fun hc => ?_) (fun hc => ?_); refine Xc_h ?_; (conv => whnf); refine Hid.skip ?_; (conv => whnf); refine Hid.seq ?_; refine Hid.seq ?_; refine Hid.reg ?_; (conv => whnf); rotate_left; refine Xc_h ?_; (conv => whnf); refine Hid.exit ?_; (conv => whnf); refine Hid.seq ?_; refine Hid.reg ?_; (conv => whnf); refine Hid.ret ?_; (conv => whnf)
  rotate_right
  · have hlt : i < a.length := by simp at hc; omega
    have ga : (a.map eSub)[i]? = some (eSub a[i]) := by simp [hlt]
    have gb : (b.map eSub)[i]? = some (eSub (b[i]'(by omega))) := by simp [List.getElem?_eq_getElem (show i < b.length by omega)]
    have ht := take_succ_iff hlt (show i < b.length by omega) htk
    have hab : a = b → a[i] = b[i]'(by omega) := fun e => by subst e; rfl
    have hxa := hf.a _ (List.getElem_mem hlt)
    have hxq := hf.q _ (List.getElem_mem hlt)
    generalize a[i] = x at *
    generalize b[i]'(by omega) = y at *
    (conv => whnf)
    refine ⟨_, ⟨by first | omega | (simp only [List.length_map]; omega) | fail, by first | exact ga | exact gb | fail⟩, ?_⟩
    (conv => whnf); intro b8 hb8; (conv => whnf); refine SStore.on 0 rfl ?_; (conv => whnf); refine Hid.seq ?_; refine Hid.reg ?_; (conv => whnf)
    refine ⟨_, ⟨by first | omega | (simp only [List.length_map]; omega) | fail, by first | exact ga | exact gb | fail⟩, ?_⟩
    (conv => whnf); intro b9 hb9; (conv => whnf); refine SStore.on 0 rfl ?_; (conv => whnf); refine Hid.seq ?_; refine Hid.reg ?_; (conv => whnf); refine SLoad.on 1 rfl ?_; (conv => whnf); refine SLoad.on 0 rfl ?_; (conv => whnf); refine SCall.p (by exact same_any w0 x y hxa hxq) ?_; (conv => whnf); refine Hid.cond rfl ?_; refine SIf.x Ty.mixed (fun hc => ?_) (fun hc => ?_); refine Xc_h ?_
    (conv => whnf); refine Hid.seq ?_; refine Hid.reg ?_; (conv => whnf); refine Hid.ret ?_; (conv => whnf); rotate_left; refine Xc_h ?_; (conv => whnf); refine Hid.skip ?_; (conv => whnf); refine Hid.reg ?_; (conv => whnf)
    rotate_right
    · skip
      have : ¬ a = b := fun e => by have := hab e; simp [this] at hc
      exact .p (by repeat (first | assumption | exact .refl _ | refine le_new2 ?_ (by assumption) | refine le_new ?_ (by assumption) | refine le_setBox ?_ (by first | assumption | exact none_in (by assumption) | exact none_in (none_in (by assumption)) | exact none_in (none_in (none_in (by assumption))) | fail) | exact Moves.le (by assumption) | refine .trans ?_ (Moves.le (by assumption)))) (by simp [this])
    · refine ⟨_, IntWalk.i64_in _ (by omega), ?_⟩
      (conv => whnf)
      have hxy : x = y := by simpa using hc
      exact ⟨i + 1, by omega, by repeat (first | exact trivial | refine ⟨by first | trivial | exact Weak.refl _ | exact Weak.tok _ _ _ | exact Weak.of_eq (congrArg (AV.int _) (by omega)) | exact Weak.of_eq (congrArg AV.bool (by fail)) | exact Weak.nils _ _ (.inr rfl), ?_⟩), .none _, hlt, ht.2 hxy, by repeat (first | assumption | exact .refl _ | refine le_new2 ?_ (by assumption) | refine le_new ?_ (by assumption) | refine le_setBox ?_ (by first | assumption | exact none_in (by assumption) | exact none_in (none_in (by assumption)) | exact none_in (none_in (none_in (by assumption))) | fail) | exact Moves.le (by assumption) | refine .trans ?_ (Moves.le (by assumption)))⟩
  · have hge : i = a.length := by simp at hc; omega
    skip
    have : a = b := by rw [hge, List.take_length, hlen, List.take_length] at htk; exact htk
    exact .p hle (by simp [this])
theorem stateSame_any (w0 : Base) (s t : Stt) (hf : Fine s.subs) : CallP Tryz.prog w0 19 [eStt s, eStt t] (.bool (decide (s.clock = t.clock) && (decide (s.next = t.next) && (decide (s.last = t.last) && decide (s.subs = t.subs))))) := by
  refine CallP.h Ty.tok Ty.mixed Tryz.func19 rfl Tryz.ntmps19 rfl (by simp) (by decide +kernel) fun σ => ?_
  (conv => whnf); refine Hid.seq ?_; refine Hid.reg ?_; (conv => whnf); refine SBox.f ?_; (conv => whnf); refine SBox.f ?_; (conv => whnf); refine Hid.seq ?_; refine Hid.reg ?_; (conv => whnf); refine SCond.mk (fun hc => ?_) (fun hc => ?_); (conv => whnf); rotate_left; (conv => whnf)
  rotate_right
  refine SCond.y (by assumption) ?_; (conv => whnf); refine SCond.y (by assumption) ?_; (conv => whnf); refine SCond.y (by assumption) ?_; (conv => whnf); refine SCond.y (by assumption) ?_; (conv => whnf); refine SPick.y (by assumption) ?_; (conv => whnf); refine SCond.mk (fun hc => ?_) (fun hc => ?_); (conv => whnf); rotate_left; (conv => whnf)
  rotate_right
  refine SCond.y (by assumption) ?_; (conv => whnf); refine SCond.y (by assumption) ?_; (conv => whnf); refine SCond.y (by assumption) ?_; (conv => whnf); refine SCond.y (by assumption) ?_; (conv => whnf); refine SPick.y (by assumption) ?_; (conv => whnf); refine SCond.mk (fun hc => ?_) (fun hc => ?_); (conv => whnf); rotate_left; (conv => whnf)
  rotate_right
  refine SCond.y (by assumption) ?_; (conv => whnf); refine SCond.y (by assumption) ?_; (conv => whnf); refine SCond.y (by assumption) ?_; (conv => whnf); refine SCond.y (by assumption) ?_; (conv => whnf); refine SCall.p (by exact equalS_any w0 _ _ _ _ hf) ?_; (conv => whnf); refine SPick.y (by assumption) ?_; (conv => whnf); refine Hid.ret ?_; (conv => whnf); rotate_left
  refine SCond.n (by assumption) ?_; (conv => whnf); refine SCond.n (by assumption) ?_; (conv => whnf); refine SCond.n (by assumption) ?_; (conv => whnf); refine SCond.n (by assumption) ?_; (conv => whnf); refine SPick.n (by assumption) ?_; (conv => whnf); refine Hid.ret ?_; (conv => whnf); rotate_left; refine SCond.n (by assumption) ?_; (conv => whnf); refine SCond.n (by assumption) ?_
  (conv => whnf); refine SCond.n (by assumption) ?_; (conv => whnf); refine SCond.n (by assumption) ?_; (conv => whnf); refine SPick.n (by assumption) ?_; (conv => whnf); refine SCond.n (by exact rfl) ?_; (conv => whnf); refine SCond.n (by exact rfl) ?_; (conv => whnf); refine SCond.n (by exact rfl) ?_; (conv => whnf); refine SCond.n (by exact rfl) ?_; (conv => whnf)
  refine SCond.n (by exact rfl) ?_; (conv => whnf); refine SPick.n (by exact rfl) ?_; (conv => whnf); refine Hid.ret ?_; (conv => whnf); rotate_left; refine SCond.n (by assumption) ?_; (conv => whnf); refine SCond.n (by assumption) ?_; (conv => whnf); refine SCond.n (by assumption) ?_; (conv => whnf); refine SCond.n (by assumption) ?_; (conv => whnf); refine SPick.n (by assumption) ?_
  (conv => whnf); refine SCond.n (by exact rfl) ?_; (conv => whnf); refine SCond.n (by exact rfl) ?_; (conv => whnf); refine SCond.n (by exact rfl) ?_; (conv => whnf); refine SCond.n (by exact rfl) ?_; (conv => whnf); refine SCond.n (by exact rfl) ?_; (conv => whnf); refine SPick.n (by exact rfl) ?_; (conv => whnf); refine SCond.n (by exact rfl) ?_; (conv => whnf); refine SCond.n (by exact rfl) ?_
  (conv => whnf); refine SCond.n (by exact rfl) ?_; (conv => whnf); refine SCond.n (by exact rfl) ?_; (conv => whnf); refine SCond.n (by exact rfl) ?_; (conv => whnf); refine SPick.n (by exact rfl) ?_; (conv => whnf); refine Hid.ret ?_; (conv => whnf); rotate_left
  all_goals
    refine .p (.refl _) (congrArg AV.bool ?_); clear hf
    rw [Bool.eq_iff_iff]
    simp_all
end Go.Proofs.YtgliemhhnkhboaaGreatDoor
end
section
set_option linter.unusedVariables false
set_option linter.unusedSimpArgs false
namespace Go.Proofs.YtgliemhhnkhboaaGreatDoor
open Go.Al
def subO (id lease : Int) : Sub := { sub0 with id := id, lease := lease }
def putAll : List UInt8 → Nat → List Sub
  | _, 0 => []
  | c, i + 1 => putS (putAll c i) (subO ((c.getD i 0).toNat : Int) (i : Nat))
structure Told (c : List UInt8) (i : Nat) (l : List Sub) : Prop where
  asc : Asc l
  of : ∀ x ∈ l, ∃ k, k < i ∧ x = subO ((c.getD k 0).toNat : Int) (k : Nat) ∧ ∀ j, k < j → j < i → c.getD j 0 ≠ c.getD k 0
  has : ∀ k, k < i → ∃ x ∈ l, x.id = ((c.getD k 0).toNat : Int)
theorem putAll_told (c : List UInt8) : ∀ i, Told c i (putAll c i)
  | 0 => ⟨List.Pairwise.nil, (fun x h => by cases h), fun k h => absurd h (by omega)⟩
  | i + 1 => by
    have h := putAll_told c i
    refine ⟨h.asc.put _, fun x hx => ?_, fun k hk => ?_⟩
    · rcases mem_put.1 hx with rfl | ⟨hx, hne⟩
      · exact ⟨i, by omega, rfl, fun j h1 h2 => by omega⟩
      · obtain ⟨k, hk, rfl, hl⟩ := h.of x hx
        refine ⟨k, by omega, rfl, fun j h1 h2 e => ?_⟩
        by_cases hj : j < i
        · exact hl j h1 hj e
        · have : j = i := by omega
          subst this
          exact hne (by show ((c.getD k 0).toNat : Int) = ((c.getD j 0).toNat : Int); rw [e])
    · by_cases hk' : k < i
      · obtain ⟨x, hx, e⟩ := h.has k hk'
        by_cases hid : x.id = ((c.getD i 0).toNat : Int)
        · exact ⟨_, mem_put.2 (.inl rfl), by show ((c.getD i 0).toNat : Int) = _; rw [← hid, e]⟩
        · exact ⟨x, mem_put.2 (.inr ⟨hx, hid⟩), e⟩
      · have : k = i := by omega
        subst this
        exact ⟨_, mem_put.2 (.inl rfl), rfl⟩
theorem putAll_fnd (c : List UInt8) (i : Nat) {k : Nat} (hk : k < i) : ∃ x, fnd (putAll c i) ((c.getD k 0).toNat : Int) = some x := by
  have h := putAll_told c i
  obtain ⟨x, hx, e⟩ := h.has k hk
  exact ⟨x, by rw [← e]; exact h.asc.fnd hx⟩
theorem putS_len (l : List Sub) (x : Sub) : (putS l x).length ≤ l.length + 1 := by
  have h2 : (wo l x.id).length ≤ l.length := List.length_filter_le _ _
  have h1 : (upto (wo l x.id) x.id ++ beyond (wo l x.id) x.id).length = (wo l x.id).length := by rw [upto_beyond]
  rw [List.length_append] at h1
  rw [putS, List.length_append, List.length_cons]
  omega
theorem putAll_len (c : List UInt8) : ∀ i, (putAll c i).length ≤ i
  | 0 => Nat.le_refl _
  | i + 1 => by
    have h := putAll_len c i
    have h1 := putS_len (putAll c i) (subO ((c.getD i 0).toNat : Int) (i : Nat))
    show (putS _ _).length ≤ _
    omega
end Go.Proofs.YtgliemhhnkhboaaGreatDoor
end
section
set_option linter.unusedVariables false
set_option linter.unusedSimpArgs false
set_option maxRecDepth 100000
set_option maxHeartbeats 2000000
namespace Go.Proofs.YtgliemhhnkhboaaGreatDoor
open Go.Al Go.RowKit
def zS : List AV := [.int .i64 0, .int .i64 0, .int .i64 0, .nils]
def zSub : List AV := [.int .i64 0, .str [], .str [], .str [], .int .i64 0, .int .i64 0, .int .i64 0, .nils, .nils, .str []]
def cS (l : List Sub) : List AV := [.int .i64 0, .int .i64 1, .int .i64 0, eSubs l]
theorem getD_some {c : List UInt8} {i : Nat} (h : i < c.length) : c[i]? = some (c.getD i 0) := by simp [List.getD, h]
theorem putAll_fine (c : List UInt8) (i : Nat) (hi : i ≤ 60) : Fine (putAll c i) := by
  have h := putAll_told c i
  refine ⟨by have := putAll_len c i; omega, fun x hx => ?_, fun x hx => ?_⟩
  · obtain ⟨k, _, rfl, _⟩ := h.of x hx
    simp [subO, sub0]
  · obtain ⟨k, _, rfl, _⟩ := h.of x hx
    simp [subO, sub0]
theorem stateOrder_any (w0 : Base) (hL : Laid w0) (c : List UInt8) (t : Tok) (hc0 : c.length ≤ 9223372036854775807) (σ : St) : CallW Tryz.prog w0 5 [.slc 1 (aBytes c) t] σ (fun r _ => r = .bool true) := by
  have hkn := known10_any w0 hL
  have hla := length_aBytes c
  refine CallW.h (B := []) Ty.tok Ty.mixed Tryz.func5 rfl Tryz.ntmps5 rfl (by simp) (by decide +kernel) (.nil σ) ?_; (conv => whnf); refine Hid.seq ?_; refine Hid.reg ?_; (conv => whnf); refine Hid.seq ?_; refine Hid.seq ?_; refine Hid.reg ?_; (conv => whnf); refine Hid.cond rfl ?_
  skip
  refine SIf.x Ty.mixed (fun hc => ?_) (fun hc => ?_); refine Xc_h ?_; (conv => whnf); refine Hid.seq ?_; refine Hid.reg ?_; (conv => whnf); rotate_left; refine Xc_h ?_; (conv => whnf); refine Hid.skip ?_; (conv => whnf); refine Hid.seq ?_; refine Hid.reg ?_; (conv => whnf)
  rotate_right
  · refine SCall.p (by exact hkn) ?_
    (conv => whnf); refine Hid.ret ?_; (conv => whnf); exact .w rfl
  have hc60 : c.length ≤ 60 := by simp [hla] at hc; omega
  clear hc; (conv => whnf); intro b3 hb3; (conv => whnf); refine SStore.on 0 rfl ?_; (conv => whnf); refine Hid.seq ?_; refine Hid.seq ?_; refine Hid.reg ?_; (conv => whnf); refine Hid.block ?_; refine Hid.loop ?_; refine SLoop.weakBox (ds := cS []) 0 rfl (.cons (.refl _) (.cons (.refl _) (.cons (.refl _) (.cons (.nils 10 .no (.inl rfl)) .nil)))) ?_
  refine SLoop.by Ty.mixed (fun i : Nat => c.length - i) (fun i => [(0, .slc 1 (aBytes c) t), (3, .ptr b3 0), (4, .int .i64 i)]) (fun i => [(b3, cS (putAll c i))]) (fun i _ => i ≤ c.length) 0 ⟨by repeat (first | exact trivial | refine ⟨by first | trivial | exact Weak.refl _ | exact Weak.tok _ _ _ | exact Weak.of_eq (congrArg (AV.int _) (by omega)) | exact Weak.of_eq (congrArg AV.bool (by fail)) | exact Weak.nils _ _ (.inr rfl), ?_⟩), .refl _, Nat.zero_le _⟩ ?_
  rintro i τ hi
  by_cases hlt : i < c.length
  · have ga : (aBytes c)[i]? = some (.int .u8 (c.getD i 0).toNat) := get_bytes (getD_some hlt)
    have hfi := putAll_fine c i (by omega)
    have hput := put_any w0 ⟨0, 1, 0, putAll c i⟩ (subO ((c.getD i 0).toNat : Int) (i : Nat)) hfi (by simp [subO, sub0]) (by simp [subO, sub0])
    have hu := (c.getD i 0).toNat_lt
    have e1 : putS (putAll c i) (subO ((c.getD i 0).toNat : Int) (i : Nat)) = putAll c (i + 1) := rfl
    dsimp only at hput
    rw [e1] at hput
    refine Xc_h ?_; (conv => whnf); refine Hid.seq ?_; refine Hid.seq ?_; refine Hid.reg ?_; (conv => whnf); refine Hid.cond rfl ?_
    skip
    refine SIf.y Ty.mixed (decide_eq_true (by rw [hla]; omega)) ?_; refine Xc_h ?_; (conv => whnf); refine Hid.skip ?_; (conv => whnf); refine Hid.seq ?_; refine Hid.regD ?_; refine SReg.t 1 [] (by decide +kernel) ?_; (conv => whnf); refine SLoad.on 0 rfl ?_; (conv => whnf)
    refine ⟨_, ⟨by first | omega | (rw [hla]; omega) | (simp only [hla]; omega) | fail, by exact ga⟩, ?_⟩
    (conv => whnf); refine ⟨_, IntWalk.i64_in _ (by omega), ?_⟩; (conv => whnf)
    refine SCall.p (by exact fun σ => CallW.weaken (hput σ) (.cons (.refl _) (.cons (.agg (.cons (.refl _) (.cons (.refl _) (.cons (.refl _) (.cons (.refl _) (.cons (.refl _) (.cons (.refl _) (.cons (.refl _) (.cons (.nils 1 .no (.inl rfl)) (.cons (.nils 8 .no (.inl rfl)) (.cons (.refl _) .nil)))))))))) (by simp [AV.one, eInts, eMsgs])) .nil))) ?_
    (conv => whnf); refine SStore.on 0 rfl ?_; (conv => whnf); refine Hid.reg ?_; (conv => whnf); refine ⟨_, IntWalk.i64_in _ (by omega), ?_⟩; (conv => whnf)
    exact ⟨i + 1, by omega, by repeat (first | exact trivial | refine ⟨by first | trivial | exact Weak.refl _ | exact Weak.tok _ _ _ | exact Weak.of_eq (congrArg (AV.int _) (by omega)) | exact Weak.of_eq (congrArg AV.bool (by fail)) | exact Weak.nils _ _ (.inr rfl), ?_⟩), .refl _, hlt⟩
  · have hge : i = c.length := by omega
    subst hge
    refine Xc_h ?_; (conv => whnf); refine Hid.seq ?_; refine Hid.seq ?_; refine Hid.reg ?_; (conv => whnf); refine Hid.cond rfl ?_
    skip
    refine SIf.n Ty.mixed (decide_eq_false (by rw [hla]; omega)) ?_; refine Xc_h ?_; (conv => whnf); refine Hid.exit ?_; (conv => whnf); refine Hid.seq ?_; refine Hid.seq ?_; refine Hid.reg ?_; (conv => whnf); refine Hid.block ?_; refine Hid.loop ?_
    skip
    have htold := putAll_told c c.length
    have hfi := putAll_fine c c.length hc60
    have hfind : ∀ k, k < c.length → ∃ x, fnd (putAll c c.length) ((c.getD k 0).toNat : Int) = some x := fun k hk => putAll_fnd c c.length hk
    generalize putAll c c.length = l at *
    have hln := hfi.n
    refine SLoop.by Ty.mixed (fun i : Nat => l.length - i) (fun i => [(0, .slc 1 (aBytes c) t), (3, .ptr b3 0), (5, .int .i64 i)]) (fun i => [(b3, cS l)]) (fun i _ => i ≤ l.length) 0 ⟨by repeat (first | exact trivial | refine ⟨by first | trivial | exact Weak.refl _ | exact Weak.tok _ _ _ | exact Weak.of_eq (congrArg (AV.int _) (by omega)) | exact Weak.of_eq (congrArg AV.bool (by fail)) | exact Weak.nils _ _ (.inr rfl), ?_⟩), .refl _, Nat.zero_le _⟩ ?_
    clear hi hlt τ; rintro i τ hi
    by_cases hlt : i < l.length
    · have ga : (l.map eSub)[i]? = some (eSub l[i]) := by simp [hlt]
      have hml : (l.map eSub).length = l.length := by simp
      have hxm := htold.of _ (List.getElem_mem hlt)
      have hprev : ∀ j, j + 1 = i → ∃ y, (l.map eSub)[j]? = some (eSub y) ∧ y.id < l[i].id := fun j hj => by
        have hjl : j < l.length := by omega
        refine ⟨l[j], by simp [hjl], ?_⟩
        have := List.pairwise_iff_getElem.1 htold.asc j i hjl hlt (by omega)
        exact this
      generalize l[i] = x at *
      obtain ⟨kk, hkk, rfl, hlast⟩ := hxm
      refine Xc_h ?_; (conv => whnf); refine Hid.seq ?_; refine Hid.seq ?_; refine Hid.reg ?_; (conv => whnf); refine SLoad.on 0 rfl ?_; (conv => whnf); refine Hid.cond rfl ?_; refine SIf.y Ty.mixed (decide_eq_true (by rw [hml]; omega)) ?_; refine Xc_h ?_; (conv => whnf); refine Hid.skip ?_; (conv => whnf); refine Hid.seq ?_; refine Hid.seq ?_; refine Hid.reg ?_; (conv => whnf)
      refine SLoad.on 0 rfl ?_; (conv => whnf)
      refine ⟨_, ⟨by first | omega | (rw [hml]; omega) | (simp only [hml]; omega) | fail, by exact ga⟩, ?_⟩
      (conv => whnf); intro b6 hb6; (conv => whnf); refine SStore.on 0 rfl ?_; (conv => whnf); refine Hid.seq ?_; refine Hid.seq ?_; refine Hid.regD ?_; refine SReg.t 1 [] (by decide +kernel) ?_; (conv => whnf)
      cases i with
      | zero =>
        have hd : decide ((0 : Int) < ((0 : Nat) : Int)) = false := rfl
        refine SCond.n (by exact rfl) ?_; (conv => whnf); refine SCond.n (by exact rfl) ?_; (conv => whnf); refine SCond.n (by exact rfl) ?_; (conv => whnf); refine SCond.n (by exact rfl) ?_; (conv => whnf); refine SCond.n (by exact rfl) ?_; (conv => whnf); refine SCond.n (by exact rfl) ?_; (conv => whnf); refine SCond.n (by exact rfl) ?_; (conv => whnf); refine SCond.n (by exact rfl) ?_
        (conv => whnf); refine SCond.n (by exact rfl) ?_; (conv => whnf); refine SCond.n (by exact rfl) ?_; (conv => whnf); refine SPick.n (by exact rfl) ?_; (conv => whnf); refine Hid.cond rfl ?_; refine SIf.n Ty.mixed (by exact rfl) ?_; refine Xc_h ?_; (conv => whnf); refine Hid.skip ?_; (conv => whnf); refine Hid.seq ?_; refine Hid.reg ?_; (conv => whnf); refine Hid.block ?_; refine Hid.loop ?_
        refine SLoop.by Ty.mixed (fun k : Nat => c.length - k) (fun k => [(0, .slc 1 (aBytes c) t), (3, .ptr b3 0), (5, .int .i64 (0 : Nat)), (6, .ptr b6 0), (7, .int .i64 k)]) (fun _ => [(b6, (eSub (subO ((c.getD kk 0).toNat : Int) (kk : Nat))).cells), (b3, cS l)]) (fun k _ => k ≤ c.length) 0 ⟨by repeat (first | exact trivial | refine ⟨by first | trivial | exact Weak.refl _ | exact Weak.tok _ _ _ | exact Weak.of_eq (congrArg (AV.int _) (by omega)) | exact Weak.of_eq (congrArg AV.bool (by fail)) | exact Weak.nils _ _ (.inr rfl), ?_⟩), .refl _, Nat.zero_le _⟩ ?_
        clear hprev ga hb6 τ; rintro k τ hk
        by_cases hkl : k < c.length
        · have ga : (aBytes c)[k]? = some (.int .u8 (c.getD k 0).toNat) := get_bytes (getD_some hkl)
          have hu := (c.getD k 0).toNat_lt
          refine Xc_h ?_; (conv => whnf); refine Hid.seq ?_; refine Hid.seq ?_; refine Hid.reg ?_; (conv => whnf); refine Hid.cond rfl ?_
          skip
          refine SIf.y Ty.mixed (decide_eq_true (by rw [hla]; omega)) ?_; refine Xc_h ?_; (conv => whnf); refine Hid.skip ?_; (conv => whnf); refine Hid.seq ?_; refine Hid.seq ?_; refine Hid.regD ?_; refine SReg.t 1 [] (by decide +kernel) ?_; (conv => whnf)
          refine ⟨_, ⟨by first | omega | (rw [hla]; omega) | (simp only [hla]; omega) | fail, by exact ga⟩, ?_⟩
          (conv => whnf); refine ⟨_, IntWalk.i64_in _ (by omega), ?_⟩; (conv => whnf); refine SLoad.on 0 rfl ?_; (conv => whnf)
          by_cases he : ((c.getD k 0).toNat : Int) = ((c.getD kk 0).toNat : Int)
          · have hkk2 : ¬ (kk < k) := fun h => hlast k h hkl (UInt8.toNat_inj.1 (by omega))
            have hd : decide (((c.getD k 0).toNat : Int) = (subO ((c.getD kk 0).toNat : Int) (kk : Nat)).id) = true := decide_eq_true he
            refine SCond.y (by assumption) ?_; (conv => whnf); refine SCond.y (by assumption) ?_; (conv => whnf); refine SCond.y (by assumption) ?_; (conv => whnf); refine SLoad.on 0 rfl ?_; (conv => whnf); refine SCond.y (by assumption) ?_; (conv => whnf); refine SPick.y (by assumption) ?_; (conv => whnf); refine Hid.cond rfl ?_
            refine SIf.n Ty.mixed (decide_eq_false (by show ¬ ((kk : Nat) : Int) < k; omega)) ?_; refine Xc_h ?_; (conv => whnf); refine Hid.skip ?_; (conv => whnf); refine Hid.reg ?_; (conv => whnf); refine ⟨_, IntWalk.i64_in _ (by omega), ?_⟩; (conv => whnf)
            exact ⟨k + 1, by omega, by repeat (first | exact trivial | refine ⟨by first | trivial | exact Weak.refl _ | exact Weak.tok _ _ _ | exact Weak.of_eq (congrArg (AV.int _) (by omega)) | exact Weak.of_eq (congrArg AV.bool (by fail)) | exact Weak.nils _ _ (.inr rfl), ?_⟩), .refl _, hkl⟩
          · have hd : decide (((c.getD k 0).toNat : Int) = (subO ((c.getD kk 0).toNat : Int) (kk : Nat)).id) = false := decide_eq_false he
            refine SCond.n (by assumption) ?_; (conv => whnf); refine SCond.n (by assumption) ?_; (conv => whnf); refine SCond.n (by assumption) ?_; (conv => whnf); refine SCond.n (by assumption) ?_; (conv => whnf); refine SPick.n (by assumption) ?_; (conv => whnf); refine Hid.cond rfl ?_; refine SIf.n Ty.mixed (by exact rfl) ?_; refine Xc_h ?_; (conv => whnf); refine Hid.skip ?_; (conv => whnf)
            refine Hid.reg ?_; (conv => whnf); refine ⟨_, IntWalk.i64_in _ (by omega), ?_⟩; (conv => whnf)
            exact ⟨k + 1, by omega, by repeat (first | exact trivial | refine ⟨by first | trivial | exact Weak.refl _ | exact Weak.tok _ _ _ | exact Weak.of_eq (congrArg (AV.int _) (by omega)) | exact Weak.of_eq (congrArg AV.bool (by fail)) | exact Weak.nils _ _ (.inr rfl), ?_⟩), .refl _, hkl⟩
        · have hke : k = c.length := by omega
          subst hke
          refine Xc_h ?_; (conv => whnf); refine Hid.seq ?_; refine Hid.seq ?_; refine Hid.reg ?_; (conv => whnf); refine Hid.cond rfl ?_
          skip
          refine SIf.n Ty.mixed (decide_eq_false (by rw [hla]; omega)) ?_; refine Xc_h ?_; (conv => whnf); refine Hid.exit ?_; (conv => whnf); refine Hid.reg ?_; (conv => whnf); refine ⟨_, IntWalk.i64_in _ (by omega), ?_⟩; (conv => whnf)
          exact ⟨0 + 1, by omega, by repeat (first | exact trivial | refine ⟨by first | trivial | exact Weak.refl _ | exact Weak.tok _ _ _ | exact Weak.of_eq (congrArg (AV.int _) (by omega)) | exact Weak.of_eq (congrArg AV.bool (by fail)) | exact Weak.nils _ _ (.inr rfl), ?_⟩), .drop (.refl _), hlt⟩
      | succ j =>
        obtain ⟨y, gy, hy⟩ := hprev j rfl
        have hd : decide ((0 : Int) < ((j + 1 : Nat) : Int)) = true := decide_eq_true (by omega)
        refine SCond.y (by assumption) ?_; (conv => whnf); refine SCond.y (by assumption) ?_; (conv => whnf); refine SLoad.on 1 rfl ?_; (conv => whnf); refine SCond.y (by assumption) ?_; (conv => whnf); refine SCond.y (by assumption) ?_; (conv => whnf); refine ⟨_, IntWalk.i64_in _ (by omega), ?_⟩; (conv => whnf); refine SCond.y (by assumption) ?_; (conv => whnf)
        refine ⟨_, ⟨by first | omega | (rw [hla]; omega) | (simp only [hla]; omega) | fail, by first | exact ga | (rw [show (((j + 1 : Nat) : Int) - 1).toNat = j by omega]; exact gy) | fail⟩, ?_⟩
        (conv => whnf); refine SCond.y (by assumption) ?_; (conv => whnf); refine SCond.y (by assumption) ?_; (conv => whnf); refine SCond.y (by assumption) ?_; (conv => whnf); refine SCond.y (by assumption) ?_; (conv => whnf); refine SLoad.on 0 rfl ?_; (conv => whnf); refine SCond.y (by assumption) ?_; (conv => whnf); refine SPick.y (by assumption) ?_; (conv => whnf); refine Hid.cond rfl ?_
        refine SIf.n Ty.mixed (decide_eq_false (by show ¬ ((subO ((c.getD kk 0).toNat : Int) (kk : Nat)).id ≤ y.id); omega)) ?_
        refine Xc_h ?_; (conv => whnf); refine Hid.skip ?_; (conv => whnf); refine Hid.seq ?_; refine Hid.reg ?_; (conv => whnf); refine Hid.block ?_; refine Hid.loop ?_
        skip
        refine SLoop.by Ty.mixed (fun k : Nat => c.length - k) (fun k => [(0, .slc 1 (aBytes c) t), (3, .ptr b3 0), (5, .int .i64 ((j + 1) : Nat)), (6, .ptr b6 0), (7, .int .i64 k)]) (fun _ => [(b6, (eSub (subO ((c.getD kk 0).toNat : Int) (kk : Nat))).cells), (b3, cS l)]) (fun k _ => k ≤ c.length) 0 ⟨by repeat (first | exact trivial | refine ⟨by first | trivial | exact Weak.refl _ | exact Weak.tok _ _ _ | exact Weak.of_eq (congrArg (AV.int _) (by omega)) | exact Weak.of_eq (congrArg AV.bool (by fail)) | exact Weak.nils _ _ (.inr rfl), ?_⟩), .refl _, Nat.zero_le _⟩ ?_
        clear hprev ga hb6 τ; rintro k τ hk
        by_cases hkl : k < c.length
        · have ga : (aBytes c)[k]? = some (.int .u8 (c.getD k 0).toNat) := get_bytes (getD_some hkl)
          have hu := (c.getD k 0).toNat_lt
          refine Xc_h ?_; (conv => whnf); refine Hid.seq ?_; refine Hid.seq ?_; refine Hid.reg ?_; (conv => whnf); refine Hid.cond rfl ?_
          skip
          refine SIf.y Ty.mixed (decide_eq_true (by rw [hla]; omega)) ?_; refine Xc_h ?_; (conv => whnf); refine Hid.skip ?_; (conv => whnf); refine Hid.seq ?_; refine Hid.seq ?_; refine Hid.regD ?_; refine SReg.t 1 [] (by decide +kernel) ?_; (conv => whnf)
          refine ⟨_, ⟨by first | omega | (rw [hla]; omega) | (simp only [hla]; omega) | fail, by exact ga⟩, ?_⟩
          (conv => whnf); refine ⟨_, IntWalk.i64_in _ (by omega), ?_⟩; (conv => whnf); refine SLoad.on 0 rfl ?_; (conv => whnf)
          by_cases he : ((c.getD k 0).toNat : Int) = ((c.getD kk 0).toNat : Int)
          · have hkk2 : ¬ (kk < k) := fun h => hlast k h hkl (UInt8.toNat_inj.1 (by omega))
            have hd : decide (((c.getD k 0).toNat : Int) = (subO ((c.getD kk 0).toNat : Int) (kk : Nat)).id) = true := decide_eq_true he
            refine SCond.y (by assumption) ?_; (conv => whnf); refine SCond.y (by assumption) ?_; (conv => whnf); refine SCond.y (by assumption) ?_; (conv => whnf); refine SLoad.on 0 rfl ?_; (conv => whnf); refine SCond.y (by assumption) ?_; (conv => whnf); refine SPick.y (by assumption) ?_; (conv => whnf); refine Hid.cond rfl ?_
            refine SIf.n Ty.mixed (decide_eq_false (by show ¬ ((kk : Nat) : Int) < k; omega)) ?_; refine Xc_h ?_; (conv => whnf); refine Hid.skip ?_; (conv => whnf); refine Hid.reg ?_; (conv => whnf); refine ⟨_, IntWalk.i64_in _ (by omega), ?_⟩; (conv => whnf)
            exact ⟨k + 1, by omega, by repeat (first | exact trivial | refine ⟨by first | trivial | exact Weak.refl _ | exact Weak.tok _ _ _ | exact Weak.of_eq (congrArg (AV.int _) (by omega)) | exact Weak.of_eq (congrArg AV.bool (by fail)) | exact Weak.nils _ _ (.inr rfl), ?_⟩), .refl _, hkl⟩
          · have hd : decide (((c.getD k 0).toNat : Int) = (subO ((c.getD kk 0).toNat : Int) (kk : Nat)).id) = false := decide_eq_false he
            refine SCond.n (by assumption) ?_; (conv => whnf); refine SCond.n (by assumption) ?_; (conv => whnf); refine SCond.n (by assumption) ?_; (conv => whnf); refine SCond.n (by assumption) ?_; (conv => whnf); refine SPick.n (by assumption) ?_; (conv => whnf); refine Hid.cond rfl ?_; refine SIf.n Ty.mixed (by exact rfl) ?_; refine Xc_h ?_; (conv => whnf); refine Hid.skip ?_; (conv => whnf)
            refine Hid.reg ?_; (conv => whnf); refine ⟨_, IntWalk.i64_in _ (by omega), ?_⟩; (conv => whnf)
            exact ⟨k + 1, by omega, by repeat (first | exact trivial | refine ⟨by first | trivial | exact Weak.refl _ | exact Weak.tok _ _ _ | exact Weak.of_eq (congrArg (AV.int _) (by omega)) | exact Weak.of_eq (congrArg AV.bool (by fail)) | exact Weak.nils _ _ (.inr rfl), ?_⟩), .refl _, hkl⟩
        · have hke : k = c.length := by omega
          subst hke
          refine Xc_h ?_; (conv => whnf); refine Hid.seq ?_; refine Hid.seq ?_; refine Hid.reg ?_; (conv => whnf); refine Hid.cond rfl ?_
          skip
          refine SIf.n Ty.mixed (decide_eq_false (by rw [hla]; omega)) ?_; refine Xc_h ?_; (conv => whnf); refine Hid.exit ?_; (conv => whnf); refine Hid.reg ?_; (conv => whnf); refine ⟨_, IntWalk.i64_in _ (by omega), ?_⟩; (conv => whnf)
          exact ⟨(j + 1) + 1, by omega, by repeat (first | exact trivial | refine ⟨by first | trivial | exact Weak.refl _ | exact Weak.tok _ _ _ | exact Weak.of_eq (congrArg (AV.int _) (by omega)) | exact Weak.of_eq (congrArg AV.bool (by fail)) | exact Weak.nils _ _ (.inr rfl), ?_⟩), .drop (.refl _), hlt⟩
    · have hge : i = l.length := by omega
      subst hge
      have hml : (l.map eSub).length = l.length := by simp
      refine Xc_h ?_; (conv => whnf); refine Hid.seq ?_; refine Hid.seq ?_; refine Hid.reg ?_; (conv => whnf); refine SLoad.on 0 rfl ?_; (conv => whnf); refine Hid.cond rfl ?_; refine SIf.n Ty.mixed (decide_eq_false (by rw [hml]; omega)) ?_; refine Xc_h ?_; (conv => whnf); refine Hid.exit ?_; (conv => whnf); refine Hid.seq ?_; refine Hid.seq ?_; refine Hid.reg ?_; (conv => whnf)
      refine Hid.block ?_; refine Hid.loop ?_
      skip
      refine SLoop.by Ty.mixed (fun k : Nat => c.length - k) (fun k => [(0, .slc 1 (aBytes c) t), (3, .ptr b3 0), (8, .int .i64 k)]) (fun _ => [(b3, cS l)]) (fun k _ => k ≤ c.length) 0 ⟨by repeat (first | exact trivial | refine ⟨by first | trivial | exact Weak.refl _ | exact Weak.tok _ _ _ | exact Weak.of_eq (congrArg (AV.int _) (by omega)) | exact Weak.of_eq (congrArg AV.bool (by fail)) | exact Weak.nils _ _ (.inr rfl), ?_⟩), .refl _, Nat.zero_le _⟩ ?_
      clear hi hlt τ; rintro k τ hk
      by_cases hkl : k < c.length
      · have ga : (aBytes c)[k]? = some (.int .u8 (c.getD k 0).toNat) := get_bytes (getD_some hkl)
        have hu := (c.getD k 0).toNat_lt
        obtain ⟨x, hx⟩ := hfind k hkl
        have hfd := find_any w0 ⟨0, 1, 0, l⟩ ((c.getD k 0).toNat : Int) hfi
        dsimp only at hfd
        rw [hx] at hfd
        refine Xc_h ?_; (conv => whnf); refine Hid.seq ?_; refine Hid.seq ?_; refine Hid.reg ?_; (conv => whnf); refine Hid.cond rfl ?_
        skip
        refine SIf.y Ty.mixed (decide_eq_true (by rw [hla]; omega)) ?_; refine Xc_h ?_; (conv => whnf); refine Hid.skip ?_; (conv => whnf); refine Hid.seq ?_; refine Hid.seq ?_; refine Hid.regD ?_; refine SReg.h 0 rfl [0, 1, 2, 3, 4, 5, 6, 7, 8, 9, 10, 11, 12] [3, 0, 0, 0, 3, 0, 0, 0, 0, 0, 4, 2, 0] (by decide +kernel) ?_; (conv => whnf); (conv => whnf); refine SLoadH.on 0 rfl rfl ?_
        (conv => whnf)
        refine ⟨_, ⟨by first | omega | (rw [hla]; omega) | (simp only [hla]; omega) | fail, by exact ga⟩, ?_⟩
        (conv => whnf); refine ⟨_, IntWalk.i64_in _ (by omega), ?_⟩; (conv => whnf); refine SCall.p (by exact hfd) ?_; (conv => whnf); intro b9 hb9; (conv => whnf); refine SStore.on 0 rfl ?_; (conv => whnf); refine Hid.seq ?_; refine Hid.reg ?_; (conv => whnf); refine Hid.cond rfl ?_; refine SIf.n Ty.mixed (by exact rfl) ?_; refine Xc_h ?_; (conv => whnf); refine Hid.skip ?_; (conv => whnf)
        refine Hid.reg ?_; (conv => whnf); refine ⟨_, IntWalk.i64_in _ (by omega), ?_⟩; (conv => whnf)
        exact ⟨k + 1, by omega, by repeat (first | exact trivial | refine ⟨by first | trivial | exact Weak.refl _ | exact Weak.tok _ _ _ | exact Weak.of_eq (congrArg (AV.int _) (by omega)) | exact Weak.of_eq (congrArg AV.bool (by fail)) | exact Weak.nils _ _ (.inr rfl), ?_⟩), .drop (.refl _), hkl⟩
      · have hke : k = c.length := by omega
        subst hke
        refine Xc_h ?_; (conv => whnf); refine Hid.seq ?_; refine Hid.seq ?_; refine Hid.reg ?_; (conv => whnf); refine Hid.cond rfl ?_
        skip
        refine SIf.n Ty.mixed (decide_eq_false (by rw [hla]; omega)) ?_; refine Xc_h ?_; (conv => whnf); refine Hid.exit ?_; (conv => whnf); refine Hid.seq ?_; refine Hid.reg ?_; (conv => whnf); refine SCall.p (by exact hkn) ?_; (conv => whnf); refine SCond.y (by exact rfl) ?_; (conv => whnf); refine SLoad.on 0 rfl ?_; (conv => whnf); refine SCond.y (by exact rfl) ?_; (conv => whnf)
        refine SLoad.on 0 rfl ?_; (conv => whnf); refine SCond.y (by exact rfl) ?_; (conv => whnf); refine SCall.p (by exact stateSame_any w0 ⟨0, 1, 0, l⟩ ⟨0, 1, 0, l⟩ hfi) ?_; (conv => whnf); refine SPick.y (by exact rfl) ?_; (conv => whnf); refine Hid.ret ?_; (conv => whnf); exact .w (congrArg AV.bool (by simp))
end Go.Proofs.YtgliemhhnkhboaaGreatDoor
end
