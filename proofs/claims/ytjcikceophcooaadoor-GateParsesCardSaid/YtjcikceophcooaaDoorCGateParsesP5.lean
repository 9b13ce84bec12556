/- The law GateParses returns true for every input, and its arguments read as before: the tied card. No conditions. This is part 5 of 7 of its proof; the parts are read in order. No conditions. -/
import Derived.Test.YtjcikceophcooaaDoorCGateParsesP4
import Derived.Lib.Bytealg
import Derived.Lib.IndexLaws
import Derived.Shelf.Strings.Split
import Derived.ProofKit
section
set_option linter.unusedVariables false
set_option linter.unusedSimpArgs false
set_option maxRecDepth 100000
set_option maxHeartbeats 4000000
namespace Go.Proofs.YtjcikceophcooaaDoor
open Go.Al Go.RowKit
theorem decL_len : ∀ s : List UInt8, (decL s).length ≤ s.length
  | [] => by simp [decL]
  | [c] => by simp [decL]
  | [c, a] => by simp [decL]
  | c :: a :: b :: s => by
    have h1 := decL_len s
    have h2 := decL_len (a :: b :: s)
    rw [decL]
    split
    · simp; omega
    · simp only [List.length_cons] at h2 ⊢; omega
theorem decL_step {c : UInt8} {r : List UInt8} (h : ∀ a b r', r = a :: b :: r' → ¬ (c = 37 ∧ 0 ≤ digI a ∧ 0 ≤ digI b)) : decL (c :: r) = c :: decL r := by
  match r, h with
  | [], _ => rfl
  | [a], _ => rfl
  | a :: b :: r', h => rw [decL, if_neg (h a b r' rfl)]
theorem refUnquote_any (w0 : Base) (s : List UInt8) (hs : s.length ≤ 1000000000000) : CallP Tryd.prog w0 28 [.str s] (unqR s) := by
  refine CallP.h Ty.tok Ty.mixed Tryd.func28 rfl Tryd.ntmps28 rfl (by simp) (by decide +kernel) fun σ => ?_
  by_cases h37 : s = [37]
  · subst h37
    (conv => whnf); refine Hid.seq ?_; refine Hid.reg ?_; (conv => whnf); refine Hid.seq ?_; refine Hid.seq ?_; refine Hid.reg ?_; (conv => whnf); refine Hid.cond rfl ?_; refine SIf.y Ty.mixed (by exact rfl) ?_; refine Xc_h ?_; (conv => whnf); refine Hid.seq ?_; refine Hid.reg ?_; (conv => whnf); refine Hid.ret ?_; (conv => whnf); exact .p (.refl _) rfl
  (conv => whnf); refine Hid.seq ?_; refine Hid.reg ?_; (conv => whnf); refine Hid.seq ?_; refine Hid.seq ?_; refine Hid.reg ?_; (conv => whnf); refine Hid.cond rfl ?_
  skip
  refine SIf.n Ty.mixed (decide_eq_false h37) ?_; refine Xc_h ?_; (conv => whnf); refine Hid.skip ?_; (conv => whnf); refine Hid.seq ?_; refine Hid.reg ?_; (conv => whnf); refine Hid.seq ?_; refine Hid.seq ?_; refine Hid.reg ?_; (conv => whnf); refine Hid.block ?_; refine Hid.loop ?_
  skip
  refine SLoop.by Ty.mixed (fun ((i, done, tk) : Nat × List UInt8 × Tok) => s.length - i) (fun (i, done, tk) => [(0, .str s), (4, .slc 1 (aBytes done) tk), (5, .int .i64 i)]) (fun _ => []) (fun (i, done, tk) τ => i ≤ s.length ∧ done.length ≤ i ∧ done ++ decL (s.drop i) = decL s ∧ Moves σ .full τ tk) (0, [], .full) ⟨by repeat (first | exact trivial | refine ⟨by first | trivial | exact Weak.refl _ | exact Weak.tok _ _ _ | exact Weak.of_eq (congrArg (AV.int _) (by omega)) | exact Weak.of_eq (congrArg AV.bool (by fail)) | exact Weak.nils _ _ (.inr rfl), ?_⟩), .none _, by simp, by simp, rfl, .full _⟩ ?_
  rintro ⟨i, done, tk⟩ τ ⟨hi, hdl, hd, hm⟩
  dsimp only at hi hdl hd hm ⊢
  by_cases hlt : i < s.length
  · have gc : s[((i : Int)).toNat]? = some s[i] := by simp [hlt]
    rw [List.drop_eq_getElem_cons hlt] at hd
    generalize s[i] = c at *
    have e37 : decide ((c.toNat : Int) = 37) = decide (c = 37) := decide_eq_decide.2 ⟨fun h => UInt8.toNat_inj.1 (by rw [show (37 : UInt8).toNat = 37 from rfl]; omega), fun h => by rw [h]; rfl⟩
    have plainEnd : ∀ tk' σ', Moves σ .full σ' tk' → (∀ a b r', s.drop (i + 1) = a :: b :: r' → ¬ (c = 37 ∧ 0 ≤ digI a ∧ 0 ≤ digI b)) → (i + 1 ≤ s.length ∧ (done ++ [c]).length ≤ i + 1 ∧ (done ++ [c]) ++ decL (s.drop (i + 1)) = decL s ∧ Moves σ .full σ' tk') := fun tk' σ' hm' hno => ⟨hlt, by simp; omega, by rw [← hd, decL_step hno]; simp, hm'⟩
    by_cases h2 : i + 2 < s.length
    · have ga : s[((i : Int) + 1).toNat]? = some s[i + 1] := by rw [show ((i : Int) + 1).toNat = i + 1 by omega]; simp
      have gb : s[((i : Int) + 2).toNat]? = some s[i + 2] := by rw [show ((i : Int) + 2).toNat = i + 2 by omega]; simp
      have hdr : s.drop (i + 1) = s[i + 1] :: s[i + 2] :: s.drop (i + 3) := by
        rw [List.drop_eq_getElem_cons (by omega), List.drop_eq_getElem_cons (by omega)]
      generalize s[i + 1] = a at *
      generalize s[i + 2] = b at *
      by_cases hall : c = 37 ∧ 0 ≤ digI a ∧ 0 ≤ digI b
      · obtain ⟨hc, ha, hb⟩ := hall
        obtain ⟨a1, _, a3⟩ := dig_ix ha
        obtain ⟨b1, _, b3⟩ := dig_ix hb
        have d1 : decide ((c.toNat : Int) = 37) = true := by rw [e37]; exact decide_eq_true hc
        have d2 : decide ((i : Int) + 2 < (s.length : Int)) = true := decide_eq_true (by omega)
        have d3 : decide ((0 : Int) ≤ digI a) = true := decide_eq_true ha
        have d4 : decide ((0 : Int) ≤ digI b) = true := decide_eq_true hb
        have d0 : decide ((i : Int) < (s.length : Int)) = true := decide_eq_true (by omega)
        have hbyte : Al.byteOf (16 * digI a + digI b) = hexB a b := by
          rw [a3, b3, Al.byteOf, hexB]
          congr 1
          omega
        refine Xc_h ?_; (conv => whnf); refine Hid.seq ?_; refine Hid.seq ?_; refine Hid.reg ?_; (conv => whnf); refine Hid.cond rfl ?_; refine SIf.y Ty.mixed (by assumption) ?_; refine Xc_h ?_; (conv => whnf); refine Hid.skip ?_; (conv => whnf); refine Hid.seq ?_; refine Hid.seq ?_; refine Hid.reg ?_; (conv => whnf)
        refine ⟨_, ⟨by first | omega | (simp only [List.length_cons, List.length_append, List.length_nil, List.length_map, length_aBytes, List.length_replicate, List.length_range]; omega) | fail, by first | exact gc | exact ga | exact gb⟩, ?_⟩
        (conv => whnf); refine Hid.seq ?_; refine Hid.seq ?_; refine Hid.reg ?_; (conv => whnf); refine SCond.y (by assumption) ?_; (conv => whnf); refine SCond.y (by assumption) ?_; (conv => whnf); refine ⟨_, IntWalk.i64_in _ (by omega), ?_⟩; (conv => whnf); refine SCond.y (by assumption) ?_; (conv => whnf); refine SCond.y (by assumption) ?_; (conv => whnf); refine SCond.y (by assumption) ?_
        (conv => whnf); refine SPick.y (by assumption) ?_; (conv => whnf); refine SCond.y (by assumption) ?_; (conv => whnf); refine SCond.y (by assumption) ?_; (conv => whnf); refine SCond.y (by assumption) ?_; (conv => whnf); refine ⟨_, IntWalk.i64_in _ (by omega), ?_⟩; (conv => whnf); refine SCond.y (by assumption) ?_; (conv => whnf)
        refine ⟨_, ⟨by first | omega | (simp only [List.length_cons, List.length_append, List.length_nil, List.length_map, length_aBytes, List.length_replicate, List.length_range]; omega) | fail, by first | exact gc | exact ga | exact gb⟩, ?_⟩
        (conv => whnf); refine SCond.y (by assumption) ?_; (conv => whnf); refine SCall.p (by exact refDigit_any w0 a) ?_; (conv => whnf); refine SCond.y (by assumption) ?_; (conv => whnf); refine SPick.y (by assumption) ?_; (conv => whnf); refine SCond.y (by assumption) ?_; (conv => whnf); refine SCond.y (by assumption) ?_; (conv => whnf); refine SCond.y (by assumption) ?_; (conv => whnf)
        refine ⟨_, IntWalk.i64_in _ (by omega), ?_⟩; (conv => whnf); refine SCond.y (by assumption) ?_; (conv => whnf)
        refine ⟨_, ⟨by first | omega | (simp only [List.length_cons, List.length_append, List.length_nil, List.length_map, length_aBytes, List.length_replicate, List.length_range]; omega) | fail, by first | exact gc | exact ga | exact gb⟩, ?_⟩
        (conv => whnf); refine SCond.y (by assumption) ?_; (conv => whnf); refine SCall.p (by exact refDigit_any w0 b) ?_; (conv => whnf); refine SCond.y (by assumption) ?_; (conv => whnf); refine SPick.y (by assumption) ?_; (conv => whnf); refine Hid.cond rfl ?_; refine SIf.y Ty.mixed (by assumption) ?_; refine Xc_h ?_; (conv => whnf); refine Hid.seq ?_; refine Hid.regD ?_
        refine SReg.t 0 [] (by decide +kernel) ?_; (conv => whnf); refine ⟨_, IntWalk.i64_in _ (by omega), ?_⟩; (conv => whnf)
        refine ⟨_, ⟨by first | omega | (simp only [List.length_cons, List.length_append, List.length_nil, List.length_map, length_aBytes, List.length_replicate, List.length_range]; omega) | fail, by first | exact gc | exact ga | exact gb⟩, ?_⟩
        (conv => whnf); refine SCall.p (by exact refDigit_any w0 a) ?_; (conv => whnf); refine ⟨_, IntWalk.i64_in _ (by omega), ?_⟩; (conv => whnf); refine ⟨_, IntWalk.i64_in _ (by omega), ?_⟩; (conv => whnf)
        refine ⟨_, ⟨by first | omega | (simp only [List.length_cons, List.length_append, List.length_nil, List.length_map, length_aBytes, List.length_replicate, List.length_range]; omega) | fail, by first | exact gc | exact ga | exact gb⟩, ?_⟩
        (conv => whnf); refine SCall.p (by exact refDigit_any w0 b) ?_; (conv => whnf); refine ⟨_, IntWalk.i64_in _ (by omega), ?_⟩; (conv => whnf); refine ⟨_, wrap_u8 _, ?_⟩; (conv => whnf); refine Hid.reg ?_; (conv => whnf); refine ⟨_, IntWalk.i64_in _ (by omega), ?_⟩; (conv => whnf); refine Hid.reg ?_; (conv => whnf)
        refine SApp.c rfl rfl (by assumption) (by simp only [List.length_cons, List.length_nil, bytes_len]; omega) fun tk1 σ1 hm => ?_
        (conv => whnf); refine Hid.reg ?_; (conv => whnf); refine ⟨_, IntWalk.i64_in _ (by omega), ?_⟩; (conv => whnf)
        rw [hbyte]
        refine ⟨(i + 3, done ++ [hexB a b], tk1), by show s.length - (i + 3) < s.length - i; omega, ?_, .none _, by show i + 3 ≤ s.length; omega, by simp; omega, ?_, by assumption⟩
        · show xWeak [(0, .str s), (4, .slc 1 (aBytes (done ++ [hexB a b])) tk1), (5, .int .i64 (i + 3 : Nat))] _
          rw [← bytes_app]
          repeat (first | exact trivial | refine ⟨by first | trivial | exact Weak.refl _ | exact Weak.tok _ _ _ | exact Weak.of_eq (congrArg (AV.int _) (by omega)) | exact Weak.of_eq (congrArg AV.bool (by fail)) | exact Weak.nils _ _ (.inr rfl), ?_⟩)
        · show (done ++ [hexB a b]) ++ decL (s.drop (i + 3)) = decL s
          rw [← hd, hdr, decL, if_pos ⟨hc, ha, hb⟩]; simp
      · have hno : ∀ a' b' r', s.drop (i + 1) = a' :: b' :: r' → ¬ (c = 37 ∧ 0 ≤ digI a' ∧ 0 ≤ digI b') := fun a' b' r' e => by
          rw [hdr] at e
          cases e
          exact hall
        refine Xc_h ?_; (conv => whnf); refine Hid.seq ?_; refine Hid.seq ?_; refine Hid.reg ?_; (conv => whnf); refine Hid.cond rfl ?_
        skip
        refine SIf.y Ty.mixed (decide_eq_true (by omega)) ?_; refine Xc_h ?_; (conv => whnf); refine Hid.skip ?_; (conv => whnf); refine Hid.seq ?_; refine Hid.seq ?_; refine Hid.reg ?_; (conv => whnf)
        refine ⟨_, ⟨by first | omega | (simp only [List.length_cons, List.length_append, List.length_nil, List.length_map, length_aBytes, List.length_replicate, List.length_range]; omega) | fail, by first | exact gc | exact ga | exact gb⟩, ?_⟩
        (conv => whnf); refine Hid.seq ?_; refine Hid.seq ?_; refine Hid.reg ?_; (conv => whnf); refine SCond.mk (fun hc => ?_) (fun hc => ?_); (conv => whnf); rotate_left; (conv => whnf)
        rotate_right
        refine SCond.y (by assumption) ?_; (conv => whnf); refine ⟨_, IntWalk.i64_in _ (by omega), ?_⟩; (conv => whnf); refine SCond.y (by assumption) ?_; (conv => whnf); refine SCond.y (by assumption) ?_; (conv => whnf); refine SCond.y (by assumption) ?_; (conv => whnf); refine SPick.y (by assumption) ?_; (conv => whnf); refine SCond.mk (fun hc => ?_) (fun hc => ?_); (conv => whnf); rotate_left
        (conv => whnf)
        rotate_right
        refine SCond.y (by assumption) ?_; (conv => whnf); refine SCond.y (by assumption) ?_; (conv => whnf); refine ⟨_, IntWalk.i64_in _ (by omega), ?_⟩; (conv => whnf); refine SCond.y (by assumption) ?_; (conv => whnf)
        refine ⟨_, ⟨by first | omega | (simp only [List.length_cons, List.length_append, List.length_nil, List.length_map, length_aBytes, List.length_replicate, List.length_range]; omega) | fail, by first | exact gc | exact ga | exact gb⟩, ?_⟩
        (conv => whnf); refine SCond.y (by assumption) ?_; (conv => whnf); refine SCall.p (by exact refDigit_any w0 a) ?_; (conv => whnf); refine SCond.y (by assumption) ?_; (conv => whnf); refine SPick.y (by assumption) ?_; (conv => whnf); refine SCond.mk (fun hc => ?_) (fun hc => ?_); (conv => whnf); rotate_left; (conv => whnf)
        rotate_right
        refine SCond.y (by assumption) ?_; (conv => whnf); refine SCond.y (by assumption) ?_; (conv => whnf); refine ⟨_, IntWalk.i64_in _ (by omega), ?_⟩; (conv => whnf); refine SCond.y (by assumption) ?_; (conv => whnf)
        refine ⟨_, ⟨by first | omega | (simp only [List.length_cons, List.length_append, List.length_nil, List.length_map, length_aBytes, List.length_replicate, List.length_range]; omega) | fail, by first | exact gc | exact ga | exact gb⟩, ?_⟩
        (conv => whnf); refine SCond.y (by assumption) ?_; (conv => whnf); refine SCall.p (by exact refDigit_any w0 b) ?_; (conv => whnf); refine SCond.y (by assumption) ?_; (conv => whnf); refine SPick.y (by assumption) ?_; (conv => whnf); refine Hid.cond rfl ?_; refine SIf.x Ty.mixed (fun hc => ?_) (fun hc => ?_); refine Xc_h ?_; (conv => whnf); refine Hid.seq ?_; refine Hid.regD ?_; rotate_left
        refine Xc_h ?_; (conv => whnf); refine Hid.skip ?_; (conv => whnf); refine Hid.reg ?_; (conv => whnf)
        rotate_right
        refine SReg.t 0 [] (by decide +kernel) ?_; (conv => whnf); refine ⟨_, IntWalk.i64_in _ (by omega), ?_⟩; (conv => whnf)
        refine ⟨_, ⟨by first | omega | (simp only [List.length_cons, List.length_append, List.length_nil, List.length_map, length_aBytes, List.length_replicate, List.length_range]; omega) | fail, by first | exact gc | exact ga | exact gb⟩, ?_⟩
        (conv => whnf); refine SCall.p (by exact refDigit_any w0 a) ?_; (conv => whnf); refine ⟨_, rfl, ?_⟩; (conv => whnf); refine ⟨_, IntWalk.i64_in _ (by omega), ?_⟩; (conv => whnf)
        refine ⟨_, ⟨by first | omega | (simp only [List.length_cons, List.length_append, List.length_nil, List.length_map, length_aBytes, List.length_replicate, List.length_range]; omega) | fail, by first | exact gc | exact ga | exact gb⟩, ?_⟩
        (conv => whnf); refine SCall.p (by exact refDigit_any w0 b) ?_; (conv => whnf); refine ⟨_, rfl, ?_⟩; (conv => whnf); refine ⟨_, wrap_u8 _, ?_⟩; (conv => whnf); refine Hid.reg ?_; (conv => whnf); refine ⟨_, IntWalk.i64_in _ (by omega), ?_⟩; (conv => whnf); refine Hid.reg ?_; (conv => whnf)
        refine SApp.c rfl rfl (by assumption) (by simp only [List.length_cons, List.length_nil, bytes_len]; omega) fun tk1 σ1 hm => ?_
        (conv => whnf); refine Hid.reg ?_; (conv => whnf); refine ⟨_, IntWalk.i64_in _ (by omega), ?_⟩; (conv => whnf); rotate_left
        refine SApp.c rfl rfl (by assumption) (by simp only [List.length_cons, List.length_nil, bytes_len]; omega) fun tk1 σ1 hm => ?_
        (conv => whnf); refine Hid.reg ?_; (conv => whnf); refine ⟨_, IntWalk.i64_in _ (by omega), ?_⟩; (conv => whnf); rotate_left; refine SCond.n (by assumption) ?_; (conv => whnf); refine SCond.n (by assumption) ?_; (conv => whnf); refine SCond.n (by assumption) ?_; (conv => whnf); refine SCond.n (by assumption) ?_; (conv => whnf); refine SCond.n (by assumption) ?_; (conv => whnf)
        refine SPick.n (by assumption) ?_; (conv => whnf); refine Hid.cond rfl ?_; refine SIf.n Ty.mixed (by exact rfl) ?_; refine Xc_h ?_; (conv => whnf); refine Hid.skip ?_; (conv => whnf); refine Hid.reg ?_; (conv => whnf)
        refine SApp.c rfl rfl (by assumption) (by simp only [List.length_cons, List.length_nil, bytes_len]; omega) fun tk1 σ1 hm => ?_
        (conv => whnf); refine Hid.reg ?_; (conv => whnf); refine ⟨_, IntWalk.i64_in _ (by omega), ?_⟩; (conv => whnf); rotate_left; refine SCond.n (by assumption) ?_; (conv => whnf); refine SCond.n (by assumption) ?_; (conv => whnf); refine SCond.n (by assumption) ?_; (conv => whnf); refine SCond.n (by assumption) ?_; (conv => whnf); refine SCond.n (by assumption) ?_; (conv => whnf)
        refine SPick.n (by assumption) ?_; (conv => whnf); refine SCond.n (by exact rfl) ?_; (conv => whnf); refine SCond.n (by exact rfl) ?_; (conv => whnf); refine SCond.n (by exact rfl) ?_; (conv => whnf); refine SCond.n (by exact rfl) ?_; (conv => whnf); refine SCond.n (by exact rfl) ?_; (conv => whnf); refine SCond.n (by exact rfl) ?_; (conv => whnf); refine SPick.n (by exact rfl) ?_
        (conv => whnf); refine Hid.cond rfl ?_; refine SIf.n Ty.mixed (by exact rfl) ?_; refine Xc_h ?_; (conv => whnf); refine Hid.skip ?_; (conv => whnf); refine Hid.reg ?_; (conv => whnf)
        refine SApp.c rfl rfl (by assumption) (by simp only [List.length_cons, List.length_nil, bytes_len]; omega) fun tk1 σ1 hm => ?_
        (conv => whnf); refine Hid.reg ?_; (conv => whnf); refine ⟨_, IntWalk.i64_in _ (by omega), ?_⟩; (conv => whnf); rotate_left; refine SCond.n (by assumption) ?_; (conv => whnf); refine SCond.n (by assumption) ?_; (conv => whnf); refine SCond.n (by assumption) ?_; (conv => whnf); refine SCond.n (by assumption) ?_; (conv => whnf); refine SPick.n (by assumption) ?_; (conv => whnf)
        refine SCond.n (by exact rfl) ?_; (conv => whnf); refine SCond.n (by exact rfl) ?_; (conv => whnf); refine SCond.n (by exact rfl) ?_; (conv => whnf); refine SCond.n (by exact rfl) ?_; (conv => whnf); refine SCond.n (by exact rfl) ?_; (conv => whnf); refine SCond.n (by exact rfl) ?_; (conv => whnf); refine SPick.n (by exact rfl) ?_; (conv => whnf); refine SCond.n (by exact rfl) ?_
        (conv => whnf); refine SCond.n (by exact rfl) ?_; (conv => whnf); refine SCond.n (by exact rfl) ?_; (conv => whnf); refine SCond.n (by exact rfl) ?_; (conv => whnf); refine SCond.n (by exact rfl) ?_; (conv => whnf); refine SCond.n (by exact rfl) ?_; (conv => whnf); refine SPick.n (by exact rfl) ?_; (conv => whnf); refine Hid.cond rfl ?_; refine SIf.n Ty.mixed (by exact rfl) ?_
        refine Xc_h ?_; (conv => whnf); refine Hid.skip ?_; (conv => whnf); refine Hid.reg ?_; (conv => whnf)
        refine SApp.c rfl rfl (by assumption) (by simp only [List.length_cons, List.length_nil, bytes_len]; omega) fun tk1 σ1 hm => ?_
        (conv => whnf); refine Hid.reg ?_; (conv => whnf); refine ⟨_, IntWalk.i64_in _ (by omega), ?_⟩; (conv => whnf); rotate_left
        all_goals first
          | (exfalso
             simp only [e37, decide_eq_true_eq, decide_eq_false_iff_not] at *
             first
               | omega
               | (apply hall; exact ⟨by assumption, by assumption, by assumption⟩))
          | (obtain ⟨p1, p2, p3, p4⟩ := plainEnd _ _ (by assumption) hno
             refine ⟨(i + 1, done ++ [c], tk1), by show s.length - (i + 1) < s.length - i; omega, ?_, .none _, p1, p2, p3, p4⟩
             show xWeak [(0, .str s), (4, .slc 1 (aBytes (done ++ [c])) tk1), (5, .int .i64 (i + 1 : Nat))] _
             rw [← bytes_app]
             repeat (first | exact trivial | refine ⟨by first | trivial | exact Weak.refl _ | exact Weak.tok _ _ _ | exact Weak.of_eq (congrArg (AV.int _) (by omega)) | exact Weak.of_eq (congrArg AV.bool (by fail)) | exact Weak.nils _ _ (.inr rfl), ?_⟩))
    · have hno : ∀ a' b' r', s.drop (i + 1) = a' :: b' :: r' → ¬ (c = 37 ∧ 0 ≤ digI a' ∧ 0 ≤ digI b') := fun a' b' r' e => by
        have := congrArg List.length e
        simp at this
        omega
      refine Xc_h ?_; (conv => whnf); refine Hid.seq ?_; refine Hid.seq ?_; refine Hid.reg ?_; (conv => whnf); refine Hid.cond rfl ?_
      skip
      refine SIf.y Ty.mixed (decide_eq_true (by omega)) ?_; refine Xc_h ?_; (conv => whnf); refine Hid.skip ?_; (conv => whnf); refine Hid.seq ?_; refine Hid.seq ?_; refine Hid.reg ?_; (conv => whnf)
      refine ⟨_, ⟨by first | omega | (simp only [List.length_cons, List.length_append, List.length_nil, List.length_map, length_aBytes, List.length_replicate, List.length_range]; omega) | fail, by exact gc⟩, ?_⟩
      (conv => whnf); refine Hid.seq ?_; refine Hid.seq ?_; refine Hid.reg ?_; (conv => whnf); refine SCond.mk (fun hc => ?_) (fun hc => ?_); (conv => whnf); rotate_left; (conv => whnf)
      rotate_right
      refine SCond.y (by assumption) ?_; (conv => whnf); refine ⟨_, IntWalk.i64_in _ (by omega), ?_⟩; (conv => whnf); refine SCond.y (by assumption) ?_; (conv => whnf); refine SCond.y (by assumption) ?_; (conv => whnf); refine SCond.y (by assumption) ?_; (conv => whnf); refine SPick.y (by assumption) ?_; (conv => whnf); refine SCond.mk (fun hc => ?_) (fun hc => ?_); (conv => whnf); rotate_left
      (conv => whnf)
      rotate_right
      refine SCond.y (by assumption) ?_; (conv => whnf); refine SCond.y (by assumption) ?_; (conv => whnf); refine ⟨_, IntWalk.i64_in _ (by omega), ?_⟩; (conv => whnf); refine SCond.y (by assumption) ?_; (conv => whnf); rotate_left; refine SCond.n (by assumption) ?_; (conv => whnf); refine SCond.n (by assumption) ?_; (conv => whnf); refine SCond.n (by assumption) ?_; (conv => whnf)
      refine SCond.n (by assumption) ?_; (conv => whnf); refine SCond.n (by assumption) ?_; (conv => whnf); refine SPick.n (by assumption) ?_; (conv => whnf); refine SCond.n (by exact rfl) ?_; (conv => whnf); refine SCond.n (by exact rfl) ?_; (conv => whnf); refine SCond.n (by exact rfl) ?_; (conv => whnf); refine SCond.n (by exact rfl) ?_; (conv => whnf); refine SCond.n (by exact rfl) ?_
      (conv => whnf); refine SCond.n (by exact rfl) ?_; (conv => whnf); refine SPick.n (by exact rfl) ?_; (conv => whnf); refine Hid.cond rfl ?_; refine SIf.n Ty.mixed (by exact rfl) ?_; refine Xc_h ?_; (conv => whnf); refine Hid.skip ?_; (conv => whnf); refine Hid.reg ?_; (conv => whnf)
      refine SApp.c rfl rfl (by assumption) (by simp only [List.length_cons, List.length_nil, bytes_len]; omega) fun tk1 σ1 hm => ?_
      (conv => whnf); refine Hid.reg ?_; (conv => whnf); refine ⟨_, IntWalk.i64_in _ (by omega), ?_⟩; (conv => whnf); rotate_left; refine SCond.n (by assumption) ?_; (conv => whnf); refine SCond.n (by assumption) ?_; (conv => whnf); refine SCond.n (by assumption) ?_; (conv => whnf); refine SCond.n (by assumption) ?_; (conv => whnf); refine SPick.n (by assumption) ?_; (conv => whnf)
      refine SCond.n (by exact rfl) ?_; (conv => whnf); refine SCond.n (by exact rfl) ?_; (conv => whnf); refine SCond.n (by exact rfl) ?_; (conv => whnf); refine SCond.n (by exact rfl) ?_; (conv => whnf); refine SCond.n (by exact rfl) ?_; (conv => whnf); refine SCond.n (by exact rfl) ?_; (conv => whnf); refine SPick.n (by exact rfl) ?_; (conv => whnf); refine SCond.n (by exact rfl) ?_
      (conv => whnf); refine SCond.n (by exact rfl) ?_; (conv => whnf); refine SCond.n (by exact rfl) ?_; (conv => whnf); refine SCond.n (by exact rfl) ?_; (conv => whnf); refine SCond.n (by exact rfl) ?_; (conv => whnf); refine SCond.n (by exact rfl) ?_; (conv => whnf); refine SPick.n (by exact rfl) ?_; (conv => whnf); refine Hid.cond rfl ?_; refine SIf.n Ty.mixed (by exact rfl) ?_; refine Xc_h ?_
      (conv => whnf); refine Hid.skip ?_; (conv => whnf); refine Hid.reg ?_; (conv => whnf)
      refine SApp.c rfl rfl (by assumption) (by simp only [List.length_cons, List.length_nil, bytes_len]; omega) fun tk1 σ1 hm => ?_
      (conv => whnf); refine Hid.reg ?_; (conv => whnf); refine ⟨_, IntWalk.i64_in _ (by omega), ?_⟩; (conv => whnf); rotate_left
      all_goals first
        | (exfalso
           simp only [e37, decide_eq_true_eq, decide_eq_false_iff_not] at *
           omega)
        | (obtain ⟨p1, p2, p3, p4⟩ := plainEnd _ _ (by assumption) hno
           refine ⟨(i + 1, done ++ [c], tk1), by show s.length - (i + 1) < s.length - i; omega, ?_, .none _, p1, p2, p3, p4⟩
           show xWeak [(0, .str s), (4, .slc 1 (aBytes (done ++ [c])) tk1), (5, .int .i64 (i + 1 : Nat))] _
           rw [← bytes_app]
           repeat (first | exact trivial | refine ⟨by first | trivial | exact Weak.refl _ | exact Weak.tok _ _ _ | exact Weak.of_eq (congrArg (AV.int _) (by omega)) | exact Weak.of_eq (congrArg AV.bool (by fail)) | exact Weak.nils _ _ (.inr rfl), ?_⟩))
  · have hge : i = s.length := by omega
    subst hge
    rw [List.drop_length] at hd
    have hdd : done = decL s := by rw [← hd]; simp [decL]
    subst hdd
    have hdn := decL_len s
    have hru := ref_unq s
    rw [if_neg h37] at hru
    refine Xc_h ?_; (conv => whnf); refine Hid.seq ?_; refine Hid.seq ?_; refine Hid.reg ?_; (conv => whnf); refine Hid.cond rfl ?_
    skip
    refine SIf.n Ty.mixed (decide_eq_false (by omega)) ?_; refine Xc_h ?_; (conv => whnf); refine Hid.exit ?_; (conv => whnf); refine Hid.seq ?_; refine Hid.seq ?_; refine Hid.reg ?_; (conv => whnf); refine ⟨_, toBytes_aBytes _, ?_⟩; (conv => whnf); refine SCall.p (by exact refQuote_any w0 (decL s) (by omega)) ?_; (conv => whnf); refine Hid.cond rfl ?_
    by_cases hq : quoteT (decL s) = s
    · refine SIf.n Ty.mixed (by simp [hq]) ?_
      refine Xc_h ?_; (conv => whnf); refine Hid.skip ?_; (conv => whnf); refine Hid.seq ?_; refine Hid.reg ?_; (conv => whnf); refine ⟨_, toBytes_aBytes _, ?_⟩; (conv => whnf); refine Hid.ret ?_; (conv => whnf)
      rw [if_pos hq] at hru
      rw [unqR, hru]
      exact .p hm.le rfl
    · refine SIf.y Ty.mixed (by simp [hq]) ?_
      refine Xc_h ?_; (conv => whnf); refine Hid.seq ?_; refine Hid.reg ?_; (conv => whnf); refine Hid.ret ?_; (conv => whnf)
      skip
      rw [if_neg hq] at hru
      rw [unqR, hru]
      exact .p hm.le rfl
end Go.Proofs.YtjcikceophcooaaDoor
end
section
set_option linter.unusedVariables false
set_option linter.unusedSimpArgs false
set_option maxRecDepth 100000
set_option maxHeartbeats 2000000
namespace Go.Proofs.YtjcikceophcooaaDoor
open Go.Al Go.RowKit
def numR (s : List UInt8) : AV := .tup [.int .i64 (goAtoi s).1, .bool (numOk s)]
theorem gnumber_any (w0 : Base) (hL : Laid w0) (s : List UInt8) (hs : s.length ≤ 1000000000000) : CallP Tryd.prog w0 51 [.str s] (numR s) := by
  refine CallP.h Ty.tok Ty.mixed Tryd.func51 rfl Tryd.ntmps51 rfl (by simp) (by decide +kernel) fun σ => ?_
  have ha := goAtoi_any w0 hL s hs
  have hb := goAtoi_bounds s
  have hi := itoa_any w0 hL (goAtoi s).1 hb.1 hb.2
  rw [numR, ← num_same]
  generalize (goAtoi s).1 = v at *
  generalize (goAtoi s).2 = e at *
  generalize Lib.itoa v = iv at *
  cases e with
  | true =>
    (conv => whnf); refine Hid.seq ?_; refine Hid.reg ?_; (conv => whnf); refine Hid.seq ?_; refine Hid.reg ?_; (conv => whnf); refine SCall.p (by exact ha) ?_; (conv => whnf); refine Hid.seq ?_; refine Hid.reg ?_; (conv => whnf); refine SCond.y (by exact rfl) ?_; (conv => whnf); refine SCond.y (by exact rfl) ?_; (conv => whnf); refine SCall.p (by exact hi) ?_; (conv => whnf)
    refine SCond.y (by exact rfl) ?_; (conv => whnf); refine SCond.y (by exact rfl) ?_; (conv => whnf); refine SPick.y (by exact rfl) ?_; (conv => whnf); refine SCond.mk (fun hc => ?_) (fun hc => ?_); (conv => whnf); rotate_left; (conv => whnf)
    rotate_right
    refine SCond.y (by assumption) ?_; (conv => whnf); refine SPick.y (by assumption) ?_; (conv => whnf); refine SCond.mk (fun hc => ?_) (fun hc => ?_); (conv => whnf); rotate_left; (conv => whnf)
    rotate_right
    refine SCond.y (by assumption) ?_; (conv => whnf); refine SPick.y (by assumption) ?_; (conv => whnf); refine Hid.ret ?_; (conv => whnf); rotate_left; refine SCond.n (by assumption) ?_; (conv => whnf); refine SPick.n (by assumption) ?_; (conv => whnf); refine Hid.ret ?_; (conv => whnf); rotate_left; refine SCond.n (by assumption) ?_; (conv => whnf); refine SPick.n (by assumption) ?_
    (conv => whnf); refine SCond.n (by exact rfl) ?_; (conv => whnf); refine SCond.n (by exact rfl) ?_; (conv => whnf); refine SPick.n (by exact rfl) ?_; (conv => whnf); refine Hid.ret ?_; (conv => whnf); rotate_left
    all_goals
      refine .p (.refl _) ?_; clear ha hb hi hs
      simp_all
      try omega
  | false =>
    (conv => whnf); refine Hid.seq ?_; refine Hid.reg ?_; (conv => whnf); refine Hid.seq ?_; refine Hid.reg ?_; (conv => whnf); refine SCall.p (by exact ha) ?_; (conv => whnf); refine Hid.seq ?_; refine Hid.reg ?_; (conv => whnf); refine SCond.n (by exact rfl) ?_; (conv => whnf); refine SCond.n (by exact rfl) ?_; (conv => whnf); refine SCond.n (by exact rfl) ?_; (conv => whnf)
    refine SCond.n (by exact rfl) ?_; (conv => whnf); refine SPick.n (by exact rfl) ?_; (conv => whnf); refine SCond.n (by exact rfl) ?_; (conv => whnf); refine SCond.n (by exact rfl) ?_; (conv => whnf); refine SPick.n (by exact rfl) ?_; (conv => whnf); refine SCond.n (by exact rfl) ?_; (conv => whnf); refine SCond.n (by exact rfl) ?_; (conv => whnf); refine SPick.n (by exact rfl) ?_
    (conv => whnf); refine Hid.ret ?_; (conv => whnf)
    all_goals
      refine .p (.refl _) ?_; clear ha hb hi hs
      simp_all
      try omega
theorem refNumber_any (w0 : Base) (hL : Laid w0) (s : List UInt8) (hs : s.length ≤ 1000000000000) : CallP Tryd.prog w0 55 [.str s] (numR s) := by
  refine CallP.h Ty.tok Ty.mixed Tryd.func55 rfl Tryd.ntmps55 rfl (by simp) (by decide +kernel) fun σ => ?_
  have ha := goAtoi_any w0 hL s hs
  have hb := goAtoi_bounds s
  have hi := itoa_any w0 hL (goAtoi s).1 hb.1 hb.2
  have e17 : decide (s.length ≤ 17) = decide ((s.length : Int) ≤ 17) := decide_eq_decide.2 (by omega)
  rw [numR, numOk, e17]
  generalize (goAtoi s).1 = v at *
  generalize (goAtoi s).2 = e at *
  generalize Lib.itoa v = iv at *
  cases e with
  | true =>
    (conv => whnf); refine Hid.seq ?_; refine Hid.reg ?_; (conv => whnf); refine Hid.seq ?_; refine Hid.reg ?_; (conv => whnf); refine SCall.p (by exact ha) ?_; (conv => whnf); refine Hid.seq ?_; refine Hid.reg ?_; (conv => whnf); refine SCond.mk (fun hc => ?_) (fun hc => ?_); (conv => whnf); rotate_left; (conv => whnf)
    rotate_right
    refine SCond.y (by assumption) ?_; (conv => whnf); refine SCall.p (by exact hi) ?_; (conv => whnf); refine SCond.y (by assumption) ?_; (conv => whnf); refine SCond.y (by assumption) ?_; (conv => whnf); refine SPick.y (by assumption) ?_; (conv => whnf); refine SCond.mk (fun hc => ?_) (fun hc => ?_); (conv => whnf); rotate_left; (conv => whnf)
    rotate_right
    refine SCond.y (by assumption) ?_; (conv => whnf); refine SPick.y (by assumption) ?_; (conv => whnf); refine SCond.mk (fun hc => ?_) (fun hc => ?_); (conv => whnf); rotate_left; (conv => whnf)
    rotate_right
    refine SCond.y (by assumption) ?_; (conv => whnf); refine SPick.y (by assumption) ?_; (conv => whnf); refine Hid.ret ?_; (conv => whnf); rotate_left; refine SCond.n (by assumption) ?_; (conv => whnf); refine SPick.n (by assumption) ?_; (conv => whnf); refine Hid.ret ?_; (conv => whnf); rotate_left; refine SCond.n (by assumption) ?_; (conv => whnf); refine SPick.n (by assumption) ?_
    (conv => whnf); refine SCond.n (by exact rfl) ?_; (conv => whnf); refine SCond.n (by exact rfl) ?_; (conv => whnf); refine SPick.n (by exact rfl) ?_; (conv => whnf); refine Hid.ret ?_; (conv => whnf); rotate_left; refine SCond.n (by assumption) ?_; (conv => whnf); refine SCond.n (by assumption) ?_; (conv => whnf); refine SCond.n (by assumption) ?_; (conv => whnf)
    refine SPick.n (by assumption) ?_; (conv => whnf); refine SCond.n (by exact rfl) ?_; (conv => whnf); refine SCond.n (by exact rfl) ?_; (conv => whnf); refine SPick.n (by exact rfl) ?_; (conv => whnf); refine SCond.n (by exact rfl) ?_; (conv => whnf); refine SCond.n (by exact rfl) ?_; (conv => whnf); refine SPick.n (by exact rfl) ?_; (conv => whnf); refine Hid.ret ?_; (conv => whnf); rotate_left
    all_goals
      refine .p (.refl _) ?_; clear ha hb hi hs
      simp_all
      try omega
  | false =>
    (conv => whnf); refine Hid.seq ?_; refine Hid.reg ?_; (conv => whnf); refine Hid.seq ?_; refine Hid.reg ?_; (conv => whnf); refine SCall.p (by exact ha) ?_; (conv => whnf); refine Hid.seq ?_; refine Hid.reg ?_; (conv => whnf); refine SCond.mk (fun hc => ?_) (fun hc => ?_); (conv => whnf); rotate_left; (conv => whnf)
    rotate_right
    refine SCond.y (by assumption) ?_; (conv => whnf); refine SCall.p (by exact hi) ?_; (conv => whnf); refine SCond.y (by assumption) ?_; (conv => whnf); refine SCond.y (by assumption) ?_; (conv => whnf); refine SPick.y (by assumption) ?_; (conv => whnf); refine SCond.mk (fun hc => ?_) (fun hc => ?_); (conv => whnf); rotate_left; (conv => whnf)
    rotate_right
    refine SCond.y (by assumption) ?_; (conv => whnf); refine SPick.y (by assumption) ?_; (conv => whnf); refine SCond.mk (fun hc => ?_) (fun hc => ?_); (conv => whnf); rotate_left; (conv => whnf)
    rotate_right
    refine SCond.y (by assumption) ?_; (conv => whnf); refine SPick.y (by assumption) ?_; (conv => whnf); refine Hid.ret ?_; (conv => whnf); rotate_left; refine SCond.n (by assumption) ?_; (conv => whnf); refine SPick.n (by assumption) ?_; (conv => whnf); refine Hid.ret ?_; (conv => whnf); rotate_left; refine SCond.n (by assumption) ?_; (conv => whnf); refine SPick.n (by assumption) ?_
    (conv => whnf); refine SCond.n (by exact rfl) ?_; (conv => whnf); refine SCond.n (by exact rfl) ?_; (conv => whnf); refine SPick.n (by exact rfl) ?_; (conv => whnf); refine Hid.ret ?_; (conv => whnf); rotate_left; refine SCond.n (by assumption) ?_; (conv => whnf); refine SCond.n (by assumption) ?_; (conv => whnf); refine SCond.n (by assumption) ?_; (conv => whnf)
    refine SPick.n (by assumption) ?_; (conv => whnf); refine SCond.n (by exact rfl) ?_; (conv => whnf); refine SCond.n (by exact rfl) ?_; (conv => whnf); refine SPick.n (by exact rfl) ?_; (conv => whnf); refine SCond.n (by exact rfl) ?_; (conv => whnf); refine SCond.n (by exact rfl) ?_; (conv => whnf); refine SPick.n (by exact rfl) ?_; (conv => whnf); refine Hid.ret ?_; (conv => whnf); rotate_left
    all_goals
      refine .p (.refl _) ?_; clear ha hb hi hs
      simp_all
      try omega
end Go.Proofs.YtjcikceophcooaaDoor
end
section
set_option linter.unusedVariables false
set_option linter.unusedSimpArgs false
set_option maxRecDepth 100000
set_option maxHeartbeats 2000000
namespace Go.Proofs.YtjcikceophcooaaDoor
open Go.Al Go.RowKit
theorem unqR_eq (w : List UInt8) : unqR w = .tup [.str (uq w), .bool (uk w)] := by
  rw [unqR, uq, uk]
  cases unqT w <;> rfl
def fT (f : Nat) : TypeId := if f ≤ 4 then 87 else if f = 5 then 88 else 89
def fO (f : Nat) : Nat := match f with
  | 0 => 4
  | 1 => 5
  | 2 => 6
  | 3 => 7
  | 4 => 8
  | 5 => 9
  | 6 => 1
  | 7 => 2
  | _ => 3
def placeV (b f : Nat) : AV := .ifc (fT f) (.ptr b (fO f))
def fieldV (o : OpV) (f : Nat) : AV := match f with
  | 0 => .str o.name
  | 1 => .str o.topic
  | 2 => .str o.want
  | 3 => .str o.body
  | 4 => .str o.attr
  | 5 => dB o.data
  | 6 => .int .i64 o.sub
  | 7 => .int .i64 o.n
  | _ => .int .i64 o.seq
theorem nine {f : Nat} (h : f < 9) : f = 0 ∨ f = 1 ∨ f = 2 ∨ f = 3 ∨ f = 4 ∨ f = 5 ∨ f = 6 ∨ f = 7 ∨ f = 8 := by omega
theorem place_any (w0 : Base) (b f : Nat) (hf : f < 9) : CallP Tryd.prog w0 37 [.ptr b 0, .int .i64 f] (placeV b f) := by
  refine CallP.h Ty.tok Ty.mixed Tryd.func37 rfl Tryd.ntmps37 rfl (by simp) (by decide +kernel) fun σ => ?_
  rcases nine hf with rfl | rfl | rfl | rfl | rfl | rfl | rfl | rfl | rfl
  all_goals
    (try refine Xc_h ?_); (try (conv => whnf)); repeat (first | refine Hid.seq ?_ | (refine Hid.reg ?_; (conv => whnf)) | refine Hid.regD ?_ | refine Hid.cond rfl ?_ | refine Hid.block ?_ | refine Hid.loop ?_ | (refine Hid.exit ?_; (conv => whnf)) | (refine Hid.ret ?_; (conv => whnf)) | (refine Hid.skip ?_; (conv => whnf)) | (refine Hid.label ?_; (conv => whnf)) | refine Hid.range ?_)
    repeat' (((first | refine SIf.y Ty.mixed (by first | exact rfl | assumption | fail) ?_ | refine SIf.n Ty.mixed (by first | exact rfl | assumption | fail) ?_ | refine SCond.y (by first | exact rfl | assumption | fail) ?_ | refine SCond.n (by first | exact rfl | assumption | fail) ?_ | refine SPick.y (by first | exact rfl | assumption | fail) ?_ | refine SPick.n (by first | exact rfl | assumption | fail) ?_ | refine SPick.b ?_ | refine SPick.i ?_ | fail | refine SLoad.on 0 rfl ?_ | refine SLoad.on 1 rfl ?_ | refine SLoad.on 2 rfl ?_ | refine SLoad.on 3 rfl ?_ | refine SLoad.on 4 rfl ?_ | refine SLoad.on 5 rfl ?_ | refine SStore.on 0 rfl ?_ | refine SStore.on 1 rfl ?_ | refine SStore.on 2 rfl ?_ | refine SStore.on 3 rfl ?_ | refine SStore.on 4 rfl ?_ | refine SStore.on 5 rfl ?_ | refine SBox.f ?_ | refine SCall.p (by fail) ?_ | fail | refine SApp.c rfl rfl (by first | assumption | exact Moves.more (by assumption) (by assumption) | fail) (by first | (simp only [length_aBytes, List.length_append, List.length_cons, List.length_nil, List.length_map, List.length_range]; omega) | omega | fail) fun tk1 σ1 hm => ?_ | refine SReg.t 0 [] (by decide +kernel) ?_ | refine And.intro (by first | omega | (simp only [List.length_cons, List.length_append, List.length_nil, List.length_map, length_aBytes, List.length_replicate, List.length_range]; omega) | fail) ?_ | refine ⟨_, ⟨by first | omega | (simp only [List.length_cons, List.length_append, List.length_nil, List.length_map, length_aBytes, List.length_replicate, List.length_range]; omega) | fail, by exact rfl⟩, ?_⟩ | refine ⟨_, toBytes_aBytes _, ?_⟩ | refine ⟨_, by repeat (first | exact toB_nil | apply toB_cons | apply toB_consC _ (by first | omega | (simp only [List.length_cons, List.length_append, List.length_nil, List.length_map, length_aBytes, List.length_replicate, List.length_range]; omega) | fail)), ?_⟩ | refine ⟨_, IntWalk.i64_in _ (by first | omega | (simp only [List.length_cons, List.length_append, List.length_nil, List.length_map, length_aBytes, List.length_replicate, List.length_range]; omega) | fail), ?_⟩ | refine ⟨_, wrap_u8 _, ?_⟩ | refine ⟨_, rfl, ?_⟩ | refine ⟨true, fun b1 hb1 => ?_⟩ | intro b1 hb1 | fail); (try refine Xc_h ?_); (try (conv => whnf)); repeat (first | refine Hid.seq ?_ | (refine Hid.reg ?_; (conv => whnf)) | refine Hid.regD ?_ | refine Hid.cond rfl ?_ | refine Hid.block ?_ | refine Hid.loop ?_ | (refine Hid.exit ?_; (conv => whnf)) | (refine Hid.ret ?_; (conv => whnf)) | (refine Hid.skip ?_; (conv => whnf)) | (refine Hid.label ?_; (conv => whnf)) | refine Hid.range ?_)))
    exact .p (.refl _) rfl
theorem place_vp (w0 : Base) (o : OpV) (f : Nat) (hf : f < 9) : CallP Tryd.prog w0 37 [.vp (eOp o), .int .i64 f] (.ifc (fT f) (.vp (fieldV o f))) := by
  refine CallP.h Ty.tok Ty.mixed Tryd.func37 rfl Tryd.ntmps37 rfl (by simp) (by decide +kernel) fun σ => ?_
  rcases nine hf with rfl | rfl | rfl | rfl | rfl | rfl | rfl | rfl | rfl
  all_goals
    (try refine Xc_h ?_); (try (conv => whnf)); repeat (first | refine Hid.seq ?_ | (refine Hid.reg ?_; (conv => whnf)) | refine Hid.regD ?_ | refine Hid.cond rfl ?_ | refine Hid.block ?_ | refine Hid.loop ?_ | (refine Hid.exit ?_; (conv => whnf)) | (refine Hid.ret ?_; (conv => whnf)) | (refine Hid.skip ?_; (conv => whnf)) | (refine Hid.label ?_; (conv => whnf)) | refine Hid.range ?_)
    repeat' (((first | refine SIf.y Ty.mixed (by first | exact rfl | assumption | fail) ?_ | refine SIf.n Ty.mixed (by first | exact rfl | assumption | fail) ?_ | refine SCond.y (by first | exact rfl | assumption | fail) ?_ | refine SCond.n (by first | exact rfl | assumption | fail) ?_ | refine SPick.y (by first | exact rfl | assumption | fail) ?_ | refine SPick.n (by first | exact rfl | assumption | fail) ?_ | refine SPick.b ?_ | refine SPick.i ?_ | fail | refine SLoad.on 0 rfl ?_ | refine SLoad.on 1 rfl ?_ | refine SLoad.on 2 rfl ?_ | refine SLoad.on 3 rfl ?_ | refine SLoad.on 4 rfl ?_ | refine SLoad.on 5 rfl ?_ | refine SStore.on 0 rfl ?_ | refine SStore.on 1 rfl ?_ | refine SStore.on 2 rfl ?_ | refine SStore.on 3 rfl ?_ | refine SStore.on 4 rfl ?_ | refine SStore.on 5 rfl ?_ | refine SBox.f ?_ | refine SCall.p (by fail) ?_ | fail | refine SApp.c rfl rfl (by first | assumption | exact Moves.more (by assumption) (by assumption) | fail) (by first | (simp only [length_aBytes, List.length_append, List.length_cons, List.length_nil, List.length_map, List.length_range]; omega) | omega | fail) fun tk1 σ1 hm => ?_ | refine SReg.t 0 [] (by decide +kernel) ?_ | refine And.intro (by first | omega | (simp only [List.length_cons, List.length_append, List.length_nil, List.length_map, length_aBytes, List.length_replicate, List.length_range]; omega) | fail) ?_ | refine ⟨_, ⟨by first | omega | (simp only [List.length_cons, List.length_append, List.length_nil, List.length_map, length_aBytes, List.length_replicate, List.length_range]; omega) | fail, by exact rfl⟩, ?_⟩ | refine ⟨_, toBytes_aBytes _, ?_⟩ | refine ⟨_, by repeat (first | exact toB_nil | apply toB_cons | apply toB_consC _ (by first | omega | (simp only [List.length_cons, List.length_append, List.length_nil, List.length_map, length_aBytes, List.length_replicate, List.length_range]; omega) | fail)), ?_⟩ | refine ⟨_, IntWalk.i64_in _ (by first | omega | (simp only [List.length_cons, List.length_append, List.length_nil, List.length_map, length_aBytes, List.length_replicate, List.length_range]; omega) | fail), ?_⟩ | refine ⟨_, wrap_u8 _, ?_⟩ | refine ⟨_, rfl, ?_⟩ | refine ⟨true, fun b1 hb1 => ?_⟩ | intro b1 hb1 | fail); (try refine Xc_h ?_); (try (conv => whnf)); repeat (first | refine Hid.seq ?_ | (refine Hid.reg ?_; (conv => whnf)) | refine Hid.regD ?_ | refine Hid.cond rfl ?_ | refine Hid.block ?_ | refine Hid.loop ?_ | (refine Hid.exit ?_; (conv => whnf)) | (refine Hid.ret ?_; (conv => whnf)) | (refine Hid.skip ?_; (conv => whnf)) | (refine Hid.label ?_; (conv => whnf)) | refine Hid.range ?_)))
    exact .p (.refl _) rfl
theorem take_any (w0 : Base) (hL : Laid w0) (σ : St) (b f : Nat) (hf : f < 9) (o : OpV) (w : List UInt8) (hw : w.length ≤ 1000000000000) (hb : σ.box b = some (oC o (dB o.data))) :
    CallW Tryd.prog w0 41 [placeV b f, .str w] σ (fun r s => r = .bool (setF o f w).2 ∧ s = σ.setBox b (oC (setF o f w).1 (dB (setF o f w).1.data))) := by
  have hu := unquote_any w0 w hw
  rw [unqR_eq] at hu
  have hlq : (uq w).length ≤ 1000000000000 := by
    rw [uq]
    cases h : unqT w with
    | none => simp
    | some l => have := unqT_len h; simp; omega
  have hn : CallP Tryd.prog w0 51 [.str w] (.tup [.int .i64 (goAtoi w).1, .bool (numOk w)]) := gnumber_any w0 hL w hw
  refine CallW.h (B := [(b, oC o (dB o.data))]) Ty.tok Ty.mixed Tryd.func41 rfl Tryd.ntmps41 rfl (by simp) (by decide +kernel) ((Know.nil σ).add hb (by simp)) ?_
  rcases nine hf with rfl | rfl | rfl | rfl | rfl | rfl | rfl | rfl | rfl
  all_goals
    (try refine Xc_h ?_); (try (conv => whnf)); repeat (first | refine Hid.seq ?_ | (refine Hid.reg ?_; (conv => whnf)) | refine Hid.regD ?_ | refine Hid.cond rfl ?_ | refine Hid.block ?_ | refine Hid.loop ?_ | (refine Hid.exit ?_; (conv => whnf)) | (refine Hid.ret ?_; (conv => whnf)) | (refine Hid.skip ?_; (conv => whnf)) | (refine Hid.label ?_; (conv => whnf)) | refine Hid.range ?_)
    repeat' (((first | refine SIf.y Ty.mixed (by first | exact rfl | assumption | fail) ?_ | refine SIf.n Ty.mixed (by first | exact rfl | assumption | fail) ?_ | refine SCond.y (by first | exact rfl | assumption | fail) ?_ | refine SCond.n (by first | exact rfl | assumption | fail) ?_ | refine SPick.y (by first | exact rfl | assumption | fail) ?_ | refine SPick.n (by first | exact rfl | assumption | fail) ?_ | refine SPick.b ?_ | refine SPick.i ?_ | fail | refine SLoad.on 0 rfl ?_ | refine SLoad.on 1 rfl ?_ | refine SLoad.on 2 rfl ?_ | refine SLoad.on 3 rfl ?_ | refine SLoad.on 4 rfl ?_ | refine SLoad.on 5 rfl ?_ | refine SStore.on 0 rfl ?_ | refine SStore.on 1 rfl ?_ | refine SStore.on 2 rfl ?_ | refine SStore.on 3 rfl ?_ | refine SStore.on 4 rfl ?_ | refine SStore.on 5 rfl ?_ | refine SBox.f ?_ | refine SCall.p (by first | exact hu | exact hn) ?_ | fail | refine SApp.c rfl rfl (by first | assumption | exact Moves.more (by assumption) (by assumption) | fail) (by first | (simp only [length_aBytes, List.length_append, List.length_cons, List.length_nil, List.length_map, List.length_range]; omega) | omega | fail) fun tk1 σ1 hm => ?_ | refine SReg.t 0 [] (by decide +kernel) ?_ | refine And.intro (by first | omega | (simp only [List.length_cons, List.length_append, List.length_nil, List.length_map, length_aBytes, List.length_replicate, List.length_range]; omega) | fail) ?_ | refine ⟨_, ⟨by first | omega | (simp only [List.length_cons, List.length_append, List.length_nil, List.length_map, length_aBytes, List.length_replicate, List.length_range]; omega) | fail, by exact rfl⟩, ?_⟩ | refine ⟨_, toBytes_aBytes _, ?_⟩ | refine ⟨_, by repeat (first | exact toB_nil | apply toB_cons | apply toB_consC _ (by first | omega | (simp only [List.length_cons, List.length_append, List.length_nil, List.length_map, length_aBytes, List.length_replicate, List.length_range]; omega) | fail)), ?_⟩ | refine ⟨_, IntWalk.i64_in _ (by first | omega | (simp only [List.length_cons, List.length_append, List.length_nil, List.length_map, length_aBytes, List.length_replicate, List.length_range]; omega) | fail), ?_⟩ | refine ⟨_, wrap_u8 _, ?_⟩ | refine ⟨_, rfl, ?_⟩ | refine ⟨true, fun b1 hb1 => ?_⟩ | intro b1 hb1 | fail); (try refine Xc_h ?_); (try (conv => whnf)); repeat (first | refine Hid.seq ?_ | (refine Hid.reg ?_; (conv => whnf)) | refine Hid.regD ?_ | refine Hid.cond rfl ?_ | refine Hid.block ?_ | refine Hid.loop ?_ | (refine Hid.exit ?_; (conv => whnf)) | (refine Hid.ret ?_; (conv => whnf)) | (refine Hid.skip ?_; (conv => whnf)) | (refine Hid.label ?_; (conv => whnf)) | refine Hid.range ?_)))
    exact .w ⟨rfl, rfl⟩
theorem told_any (w0 : Base) (hL : Laid w0) (o : OpV) (f : Nat) (hf : f < 9) (hs : o.name.length ≤ 1000000000000 ∧ o.topic.length ≤ 1000000000000 ∧ o.want.length ≤ 1000000000000 ∧ o.body.length ≤ 1000000000000 ∧ o.attr.length ≤ 1000000000000 ∧ o.data.length ≤ 1000000000000)
    (hi : (-9223372036854775808 ≤ o.sub ∧ o.sub ≤ 9223372036854775807) ∧ (-9223372036854775808 ≤ o.n ∧ o.n ≤ 9223372036854775807) ∧ (-9223372036854775808 ≤ o.seq ∧ o.seq ≤ 9223372036854775807)) : CallP Tryd.prog w0 36 [.ifc (fT f) (.vp (fieldV o f))] (.str (toldF o f)) := by
  obtain ⟨s1, s2, s3, s4, s5, s6⟩ := hs
  obtain ⟨⟨i1, j1⟩, ⟨i2, j2⟩, i3, j3⟩ := hi
  refine CallP.h Ty.tok Ty.mixed Tryd.func36 rfl Tryd.ntmps36 rfl (by simp) (by decide +kernel) fun σ => ?_
  rcases nine hf with rfl | rfl | rfl | rfl | rfl | rfl | rfl | rfl | rfl
  all_goals
    (try refine Xc_h ?_); (try (conv => whnf)); repeat (first | refine Hid.seq ?_ | (refine Hid.reg ?_; (conv => whnf)) | refine Hid.regD ?_ | refine Hid.cond rfl ?_ | refine Hid.block ?_ | refine Hid.loop ?_ | (refine Hid.exit ?_; (conv => whnf)) | (refine Hid.ret ?_; (conv => whnf)) | (refine Hid.skip ?_; (conv => whnf)) | (refine Hid.label ?_; (conv => whnf)) | refine Hid.range ?_)
    repeat' (((first | refine SIf.y Ty.mixed (by first | exact rfl | assumption | fail) ?_ | refine SIf.n Ty.mixed (by first | exact rfl | assumption | fail) ?_ | refine SCond.y (by first | exact rfl | assumption | fail) ?_ | refine SCond.n (by first | exact rfl | assumption | fail) ?_ | refine SPick.y (by first | exact rfl | assumption | fail) ?_ | refine SPick.n (by first | exact rfl | assumption | fail) ?_ | refine SPick.b ?_ | refine SPick.i ?_ | fail | refine SLoad.on 0 rfl ?_ | refine SLoad.on 1 rfl ?_ | refine SLoad.on 2 rfl ?_ | refine SLoad.on 3 rfl ?_ | refine SLoad.on 4 rfl ?_ | refine SLoad.on 5 rfl ?_ | refine SStore.on 0 rfl ?_ | refine SStore.on 1 rfl ?_ | refine SStore.on 2 rfl ?_ | refine SStore.on 3 rfl ?_ | refine SStore.on 4 rfl ?_ | refine SStore.on 5 rfl ?_ | refine SBox.f ?_ | refine SCall.p (by first | exact quote_any w0 _ (by assumption) | exact itoa_any w0 hL _ (by assumption) (by assumption)) ?_ | fail | refine SApp.c rfl rfl (by first | assumption | exact Moves.more (by assumption) (by assumption) | fail) (by first | (simp only [length_aBytes, List.length_append, List.length_cons, List.length_nil, List.length_map, List.length_range]; omega) | omega | fail) fun tk1 σ1 hm => ?_ | refine SReg.t 0 [] (by decide +kernel) ?_ | refine And.intro (by first | omega | (simp only [List.length_cons, List.length_append, List.length_nil, List.length_map, length_aBytes, List.length_replicate, List.length_range]; omega) | fail) ?_ | refine ⟨_, ⟨by first | omega | (simp only [List.length_cons, List.length_append, List.length_nil, List.length_map, length_aBytes, List.length_replicate, List.length_range]; omega) | fail, by exact rfl⟩, ?_⟩ | refine ⟨_, toBytes_aBytes _, ?_⟩ | refine ⟨_, by repeat (first | exact toB_nil | apply toB_cons | apply toB_consC _ (by first | omega | (simp only [List.length_cons, List.length_append, List.length_nil, List.length_map, length_aBytes, List.length_replicate, List.length_range]; omega) | fail)), ?_⟩ | refine ⟨_, IntWalk.i64_in _ (by first | omega | (simp only [List.length_cons, List.length_append, List.length_nil, List.length_map, length_aBytes, List.length_replicate, List.length_range]; omega) | fail), ?_⟩ | refine ⟨_, wrap_u8 _, ?_⟩ | refine ⟨_, rfl, ?_⟩ | refine ⟨true, fun b1 hb1 => ?_⟩ | intro b1 hb1 | fail); (try refine Xc_h ?_); (try (conv => whnf)); repeat (first | refine Hid.seq ?_ | (refine Hid.reg ?_; (conv => whnf)) | refine Hid.regD ?_ | refine Hid.cond rfl ?_ | refine Hid.block ?_ | refine Hid.loop ?_ | (refine Hid.exit ?_; (conv => whnf)) | (refine Hid.ret ?_; (conv => whnf)) | (refine Hid.skip ?_; (conv => whnf)) | (refine Hid.label ?_; (conv => whnf)) | refine Hid.range ?_)))
    exact .p (.refl _) rfl
end Go.Proofs.YtjcikceophcooaaDoor
end
section
set_option linter.unusedVariables false
set_option linter.unusedSimpArgs false
namespace Go.Proofs.YtjcikceophcooaaDoor
open Go.Al
def pcs (c : UInt8) : List UInt8 → List (List UInt8)
  | [] => [[]]
  | b :: l => if b = c then [] :: pcs c l else match pcs c l with
    | p :: ps => (b :: p) :: ps
    | [] => [[b]]
theorem pcs_ne (c : UInt8) : ∀ l, pcs c l ≠ []
  | [] => by simp [pcs]
  | b :: l => by
    rw [pcs]
    split
    · simp
    · split <;> simp
theorem ix_cases (c : UInt8) : ∀ l : List UInt8, (Lib.indexByte l c = -1 ∧ pcs c l = [l]) ∨ ∃ i : Nat, Lib.indexByte l c = i ∧ i < l.length ∧ pcs c l = l.take i :: pcs c (l.drop (i + 1))
  | [] => .inl ⟨rfl, rfl⟩
  | b :: l => by
    by_cases h : b = c
    · exact .inr ⟨0, by simp [Lib.indexByte, h], by simp, by simp [pcs, h]⟩
    · rcases ix_cases c l with ⟨h1, h2⟩ | ⟨i, h1, h2, h3⟩
      · exact .inl ⟨by simp [Lib.indexByte, h, h1], by simp [pcs, h, h2]⟩
      · refine .inr ⟨i + 1, ?_, by simp; omega, by simp [pcs, h, h3]⟩
        have : (Lib.indexByte l c == -1) = false := by rw [h1]; simp
        simp [Lib.indexByte, h, this, h1]
theorem pcs_len (c : UInt8) : ∀ l : List UInt8, (pcs c l).length ≤ l.length + 1
  | [] => by simp [pcs]
  | b :: l => by
    have := pcs_len c l
    rw [pcs]
    split
    · simp; omega
    · split
      · rename_i e; rw [e] at this; simpa using Nat.le_succ_of_le this
      · simp
end Go.Proofs.YtjcikceophcooaaDoor
end
section
set_option linter.unusedVariables false
set_option linter.unusedSimpArgs false
set_option maxRecDepth 100000
set_option maxHeartbeats 1000000
namespace Go.Proofs.YtjcikceophcooaaDoor
open Go.Al Go.RowKit
open Go.Shelf Go.Lib in
theorem split_one {P : Program} {ρ : Ren} (L : Lays.n146 P ρ) (hi9 : (P.info? (ρ.t 9)).map (fun i => (i.zero, i.size, i.bytes)) = some (some (.string ByteArray.empty), 1, 16)) (s : ByteArray) (c : UInt8) (w : World) (hs : s.size < 4294967281) :
    Calls P (ρ.f 146) #[.string s, .string ⟨#[c]⟩] w fun e w' =>
      e = .returned (.slice (some ⟨w.heap.size, 0, none⟩) (Lib.countB s ⟨#[c]⟩ + 1) (Lib.countB s ⟨#[c]⟩ + 1)) ∧ w' = w.alloc (.cells ((Lib.splitB ⟨#[c]⟩ 0 (Lib.countB s ⟨#[c]⟩) s).map Value.string).toArray (ρ.t 9)) := by
  have h1 : 1 ≤ (⟨#[c]⟩ : ByteArray).size := Nat.le_refl _
  have hle := Lib.countB_le ⟨#[c]⟩ h1 s.size s (Nat.le_refl _)
  have hlen := Lib.splitB_all ⟨#[c]⟩ h1 0 _ s rfl
  have hI : ∀ (x : ByteArray) (cc : Array Value), x.size ≤ s.size → Calls P (ρ.f 143) #[.string x, .string ⟨#[c]⟩] (w.alloc (.cells cc (ρ.t 9))) fun e w' => e = .returned (.int .i64 (Lib.indexB x ⟨#[c]⟩)) ∧ w' = w.alloc (.cells cc (ρ.t 9)) := fun x cc _ =>
    (Any.strings_Index_one { L with } x c _).mono fun e w' ⟨he, hw⟩ => ⟨by rw [he, ← Lib.index_one], hw⟩
  have hC : Calls P (ρ.f 138) #[.string s, .string ⟨#[c]⟩] w fun e w' => e = .returned (.int .i64 (Lib.countB s ⟨#[c]⟩)) ∧ w' = w :=
    (Any.strings_Count_one { L with } s c w).mono fun e w' ⟨he, hw⟩ => ⟨by
      rw [he]
      show _ = Ending.returned (Value.int .i64 ((Lib.count s.data.toList [c] : Nat) : Int))
      rw [Lib.count_one]
      rfl, hw⟩
  have k := Any.strings_genSplit_core { L with } hi9 s ⟨#[c]⟩ 0 (-1) (Lib.countB s ⟨#[c]⟩ + 1) w hs h1 (Nat.zero_le _) hI hC (by decide) (by decide) (by rw [if_pos (by decide)]; omega)
  rw [Nat.add_sub_cancel, hlen] at k
  have e2 : Lib.cellsOf (Lib.splitB ⟨#[c]⟩ 0 (Lib.countB s ⟨#[c]⟩) s) (Lib.countB s ⟨#[c]⟩ + 1) = ((Lib.splitB ⟨#[c]⟩ 0 (Lib.countB s ⟨#[c]⟩) s).map Value.string).toArray := by rw [← hlen]; exact Lib.cellsOf_full _
  rw [e2] at k
  have t3 := L.t3; have t9 := L.t9; have t31 := L.t31
  have a3 := L.a3; have a9 := L.a9; have a31 := L.a31
  have z3 := L.z3; have v3 := L.v3; have z9 := L.z9; have v9 := L.v9; have z31 := L.z31; have v31 := L.v31
  have e221 : ∀ args w, (callFunc (ρ.f 221) args).run P w = .ok (.enter (ρ.f 221) args) w := enters_of L.f221 (by kernel_rfl) rfl
  go_enter L.f146, Body.n146_ntmps ρ
  go_wp2_with (go_at_fn (ρ.f 221); refine k.mono ?_; rintro e w' ⟨rfl, hw⟩; rw [hw])
  go_ret
  exact ⟨rfl, rfl⟩
theorem ix_count {c : UInt8} {s : List UInt8} {i : Nat} (h : Lib.indexByte s c = i) : s.count c = (s.drop (i + 1)).count c + 1 := by
  obtain ⟨h1, h2⟩ := Lib.indexByte_some h
  obtain ⟨hi, e⟩ := List.getElem?_eq_some_iff.1 h1
  have h0 : (s.take i).count c = 0 := List.count_eq_zero.2 fun hm => by
    obtain ⟨k, hk, ek⟩ := List.mem_iff_getElem.1 hm
    have hki : k < i := by simp at hk; omega
    have hks : k < s.length := by omega
    exact h2 k hki (by rw [List.getElem?_eq_getElem hks]; rw [List.getElem_take] at ek; rw [ek])
  conv => lhs; rw [← List.take_append_drop i s, List.count_append, h0, List.drop_eq_getElem_cons hi, e, List.count_cons_self]
  omega
theorem splitK_pcs (c : UInt8) : ∀ (k : Nat) (s : List UInt8), s.count c ≤ k → Lib.splitK [c] 0 k s = pcs c s
  | 0, s, h => by
    rcases ix_cases c s with ⟨_, h2⟩ | ⟨i, h1, h2, h3⟩
    · rw [h2]; rfl
    · have := ix_count h1; omega
  | k + 1, s, h => by
    rcases ix_cases c s with ⟨h1, h2⟩ | ⟨i, h1, h2, h3⟩
    · rw [h2, Lib.splitK, Lib.index_one, h1]; rfl
    · have hc := ix_count h1
      have hb : ((i : Int) == -1) = false := beq_eq_false_iff_ne.2 (by omega)
      rw [h3, Lib.splitK, Lib.index_one, h1, hb]
      simp only [Bool.false_eq_true, if_false, Int.toNat_natCast, Nat.add_zero, List.length_cons, List.length_nil, Nat.zero_add]
      rw [splitK_pcs c k _ (by omega)]
def strs (l : List (List UInt8)) : List AV := l.map .str
theorem strs_rel {G : Gh} {w : World} : ∀ l : List (List UInt8), RelL G w ((strs l).flatMap AV.cells) (l.map bstr)
  | [] => .nil
  | p :: l => .cons (.str p) (strs_rel l)
theorem split_any (w0 : Base) (s : List UInt8) (c : UInt8) (hs : s.length < 4294967281) : CallP Tryd.prog w0 40 [.str s, .str [c]] (.slc 1 (strs (pcs c s)) .no) := .fresh fun G w vs hb hr => by
  cases hr with
  | cons h t =>
    cases t with
    | cons h2 t =>
      cases t
      cases h
      cases h2
      refine (split_one Tryd.lays146 (by kernel_rfl) ⟨s.toArray⟩ c w (by simpa [ByteArray.size] using hs)).mono ?_
      rintro e w' ⟨rfl, rfl⟩
      have hcn : Lib.countB ⟨s.toArray⟩ ⟨#[c]⟩ = s.count c := by show Lib.count s [c] = _; rw [Lib.count_one]
      have hle : s.count c ≤ s.length := List.count_le_length
      have hd := Lib.splitB_data ⟨#[c]⟩ 0 (Lib.countB ⟨s.toArray⟩ ⟨#[c]⟩) ⟨s.toArray⟩
      have hpl := Lib.splitB_all ⟨#[c]⟩ (Nat.le_refl _) 0 _ ⟨s.toArray⟩ rfl
      rw [hcn] at hd hpl ⊢
      replace hd : (Lib.splitB ⟨#[c]⟩ 0 (s.count c) ⟨s.toArray⟩).map (·.data.toList) = pcs c s := by rw [hd]; exact splitK_pcs c _ s (Nat.le_refl _)
      have hv : (Lib.splitB ⟨#[c]⟩ 0 (s.count c) ⟨s.toArray⟩).map Value.string = (pcs c s).map bstr := by
        rw [← hd, List.map_map]
        exact List.map_congr_left fun x _ => rfl
      have hn : (pcs c s).length = s.count c + 1 := by rw [← hd, List.length_map, hpl]
      rw [hv]
      generalize Tryd.lays146_ren.t 9 = T9
      have hsz : (w.alloc (.cells ((pcs c s).map bstr).toArray T9)).heap.size = w.heap.size + 1 := by show (w.heap.push _).size = _; rw [Array.size_push]
      have hnew : (w.alloc (.cells ((pcs c s).map bstr).toArray T9)).heap[w.heap.size]? = some (.cells ((pcs c s).map bstr).toArray T9) := by show (w.heap.push _)[w.heap.size]? = _; rw [Array.getElem?_push, if_pos rfl]
      refine ⟨_, rfl, ⟨rfl, rfl, rfl, by rw [hsz]; omega, fun k hk => by show (w.heap.push _)[k]? = _; rw [Array.getElem?_push, if_neg (by omega)]⟩, .slc (vs := (pcs c s).map bstr) (by rw [strs, List.length_map, hn]) (Nat.le_refl _) (by simp only [maxLen]; omega) (fun x hx => ?_) (strs_rel _) (fun k v hk => ?_) trivial⟩
      · obtain ⟨p, _, rfl⟩ := List.mem_map.1 hx
        exact ⟨rfl, fun c hc => by obtain rfl := List.mem_singleton.1 hc; rfl⟩
      · refine ⟨w.heap.size, 0, rfl, .inr (.inr ⟨Nat.le_refl _, by rw [hsz]; omega⟩), ?_⟩
        rw [cell_block hnew, Nat.zero_add]
        simpa using hk
end Go.Proofs.YtjcikceophcooaaDoor
end
section
set_option linter.unusedVariables false
set_option linter.unusedSimpArgs false
set_option maxRecDepth 100000
set_option maxHeartbeats 4000000
namespace Go.Proofs.YtjcikceophcooaaDoor
open Go.Al Go.RowKit
def fldV : List Nat → AV
  | [] => .nils
  | l => .slc 1 (l.map fun f : Nat => AV.int .i64 ((f : Nat) : Int)) .full
def fV (p : List UInt8 × List Nat) : AV := .agg [.str p.1, fldV p.2]
theorem forms_any (w0 : Base) : CallP Tryd.prog w0 35 [] (.slc 2 (formsL.map fV) .full) := by
  refine CallP.h Ty.tok Ty.mixed Tryd.func35 rfl Tryd.ntmps35 rfl (by simp) (by decide +kernel) fun σ => ?_
  (conv => whnf); refine Hid.seq ?_; refine Hid.reg ?_; (conv => whnf); refine Hid.seq ?_; refine Hid.reg ?_; (conv => whnf); refine Hid.seq ?_; refine Hid.reg ?_; (conv => whnf); refine Hid.seq ?_; refine Hid.reg ?_; (conv => whnf); refine Hid.ret ?_; (conv => whnf)
  skip
  exact .p (.refl _) rfl
def parseT (line : List UInt8) : OpV × Nat := match pcs 32 line with
  | w0 :: ws => parseAt formsL 0 w0 ws
  | [] => (op0, 70)
theorem pcs_mem_len32 : ∀ (l : List UInt8), ∀ p ∈ pcs 32 l, p.length ≤ l.length
  | [], p, h => by simp [pcs] at h; subst h; simp
  | b :: l, p, h => by
    have ih := pcs_mem_len32 l
    rw [pcs] at h
    split at h
    · rcases List.mem_cons.1 h with rfl | h
      · simp
      · have := ih p h; simp; omega
    · split at h
      · rename_i q qs e
        rcases List.mem_cons.1 h with rfl | h
        · have := ih q (by rw [e]; simp); simp; omega
        · have := ih p (by rw [e]; simp [h]); simp; omega
      · simp at h; subst h; simp
theorem strs_len8 (l : List (List UInt8)) : (strs l).length = l.length := by simp [strs]
theorem weak_opK (k : Int) : Weak (eOp (opK k)) (.agg (oC (opK k) .nils)) :=
  .agg (.cons (.refl _) (.cons (.refl _) (.cons (.refl _) (.cons (.refl _) (.cons (.refl _) (.cons (.refl _) (.cons (.refl _) (.cons (.refl _) (.cons (.refl _) (.cons (.nils 1 .no (.inl rfl)) .nil)))))))))) (by simp [oC, AV.one, dB])
theorem weak_cells (k : Int) : WeakL (oC (opK k) (dB [])) (oC (opK k) .nils) :=
  .cons (.refl _) (.cons (.refl _) (.cons (.refl _) (.cons (.refl _) (.cons (.refl _) (.cons (.refl _) (.cons (.refl _) (.cons (.refl _) (.cons (.refl _) (.cons (.nils 1 .no (.inl rfl)) .nil)))))))))
theorem forms_fld : ∀ p ∈ formsL, p.2.length ≤ 5 ∧ ∀ f ∈ p.2, f < 9 := by decide
theorem parse_any (w0 : Base) (hL : Laid w0) (line : List UInt8) (hs : line.length ≤ 1000000000) : CallP Tryd.prog w0 21 [.str line] (.tup [eOp (parseT line).1, .int .u16 (parseT line).2]) := fun σ => by
  have hsp := split_any w0 line 32 (by omega)
  have hml := fun p hp => Nat.le_trans (pcs_mem_len32 line p hp) hs
  have hpl := pcs_len 32 line
  rw [parseT]
  cases hp : pcs 32 line with
  | nil => exact absurd hp (pcs_ne 32 line)
  | cons x ws =>
  rw [hp] at hsp hml hpl
  dsimp only
  have hfo := forms_any w0
  have hfl := forms_fld
  have hf20 : formsL.length = 20 := rfl
  generalize formsL = fl at *
  refine CallW.h (B := []) Ty.tok Ty.mixed Tryd.func21 rfl Tryd.ntmps21 rfl (by simp) (by decide +kernel) (.nil σ) ?_; (conv => whnf); refine Hid.seq ?_; refine Hid.reg ?_; (conv => whnf); intro b2 hb2; (conv => whnf); refine Hid.seq ?_; refine Hid.reg ?_; (conv => whnf); refine SCall.p (by exact hsp) ?_; (conv => whnf); refine Hid.seq ?_; refine Hid.seq ?_
  refine Hid.reg ?_; (conv => whnf); refine SCall.p (by exact hfo) ?_; (conv => whnf); refine Hid.block ?_; refine Hid.loop ?_
  have hle0 : St.Le σ (σ.setBox b2 (oC op0 .nils)) := le_new (.refl _) hb2
  have hln : (fl.map fV).length = fl.length := by simp
  have hws := strs_len8 (x :: ws)
  refine SLoop.by Ty.mixed (fun i : Nat => fl.length - i) (fun i => [(2, .ptr b2 0), (4, .slc 1 (strs (x :: ws)) .no), (12, .slc 2 (fl.map fV) .full), (13, .int .i64 (fl.map fV).length), (14, .int .i64 i)]) (fun _ => [(b2, oC op0 .nils)]) (fun i τ => i ≤ fl.length ∧ parseAt (fl.drop i) i x ws = parseAt fl 0 x ws ∧ St.Le σ τ) 0 ⟨by repeat (first | exact trivial | refine ⟨by first | trivial | exact Weak.refl _ | exact Weak.tok _ _ _ | exact Weak.of_eq (congrArg (AV.int _) (by omega)) | exact Weak.of_eq (congrArg AV.bool (by fail)) | exact Weak.nils _ _ (.inr rfl), ?_⟩), .refl _, Nat.zero_le _, rfl, hle0⟩ ?_
  rintro i τ ⟨hi, hd, hle⟩
  by_cases hlt : i < fl.length
  · have ga : (fl.map fV)[i]? = some (fV fl[i]) := by simp [hlt]
    have hfn := hfl _ (List.getElem_mem hlt)
    rw [List.drop_eq_getElem_cons hlt] at hd
    generalize fl[i] = q at *
    obtain ⟨n, fs⟩ := q
    rw [parseAt] at hd
    dsimp only at hfn
    have hl7 : ((x :: ws).length : Int) = ws.length + 1 := by simp
    cases fs with
    | nil =>
      refine Xc_h ?_; (conv => whnf); refine Hid.seq ?_; refine Hid.reg ?_; (conv => whnf); refine Hid.seq ?_; refine Hid.cond rfl ?_
      skip
      refine SIf.y Ty.mixed (decide_eq_true (by rw [hln]; omega)) ?_; refine Xc_h ?_; (conv => whnf); refine Hid.skip ?_; (conv => whnf); refine Hid.seq ?_; refine Hid.seq ?_; refine Hid.reg ?_; (conv => whnf)
      refine ⟨_, ⟨by first | omega | (rw [hln]; omega) | (rw [hws]; simp; omega) | fail, by first | exact ga | exact rfl⟩, ?_⟩
      (conv => whnf); intro b6 hb6; (conv => whnf); refine SStore.on 0 rfl ?_; (conv => whnf); refine Hid.seq ?_; refine Hid.seq ?_; refine Hid.regD ?_; refine SReg.t 1 [] (by decide +kernel) ?_; (conv => whnf); refine SLoad.on 0 rfl ?_; (conv => whnf)
      refine ⟨_, ⟨by first | omega | (rw [hln]; omega) | (rw [hws]; simp; omega) | fail, by first | exact ga | exact rfl⟩, ?_⟩
      (conv => whnf); refine Hid.cond rfl ?_
      by_cases hne : n = x
      · refine SIf.n Ty.mixed (by simp [hne]) ?_
        rw [if_pos hne] at hd
        refine Xc_h ?_; (conv => whnf); refine Hid.skip ?_; (conv => whnf); refine Hid.seq ?_; refine Hid.reg ?_; (conv => whnf); refine ⟨_, IntWalk.i64_in _ (by omega), ?_⟩; (conv => whnf); intro b7 hb7; (conv => whnf); refine SStore.on 0 rfl ?_; (conv => whnf); refine Hid.seq ?_; refine Hid.seq ?_; refine Hid.reg ?_; (conv => whnf); refine SLoad.on 1 rfl ?_; (conv => whnf)
        refine ⟨_, IntWalk.i64_in _ (by omega), ?_⟩; (conv => whnf); refine Hid.cond rfl ?_
        by_cases hlen : ws.length = ([] : List Nat).length
        · refine SIf.n Ty.mixed (by rw [hws, hl7, hlen]; rfl) ?_
          rw [if_pos hlen, fillR] at hd
          refine Xc_h ?_; (conv => whnf); refine Hid.skip ?_; (conv => whnf); refine Hid.seq ?_; refine Hid.seq ?_; refine Hid.reg ?_; (conv => whnf); refine SLoad.on 1 rfl ?_; (conv => whnf); refine Hid.block ?_; refine Hid.loop ?_
          refine SLoop.by Ty.mixed (fun _ : Unit => 0) (fun _ => [(2, .ptr b2 0), (7, .ptr b7 0), (38, .int .i64 0), (39, .int .i64 0)]) (fun _ => [(b7, oC (opK ((i : Int) + 1)) .nils), (b2, oC op0 .nils)]) (fun _ s => St.Le σ s) () ⟨by repeat (first | exact trivial | refine ⟨by first | trivial | exact Weak.refl _ | exact Weak.tok _ _ _ | exact Weak.of_eq (congrArg (AV.int _) (by omega)) | exact Weak.of_eq (congrArg AV.bool (by fail)) | exact Weak.nils _ _ (.inr rfl), ?_⟩), ?_, le_new2 (le_new2 hle hb6) hb7⟩ ?_
          · exact .keep (.drop (.keep .nil))
          rintro _ s hls; refine Xc_h ?_; (conv => whnf); refine Hid.seq ?_; refine Hid.reg ?_; (conv => whnf); refine Hid.seq ?_; refine Hid.cond rfl ?_; refine SIf.n Ty.mixed (by exact rfl) ?_; refine Xc_h ?_; (conv => whnf); refine Hid.exit ?_; (conv => whnf); refine Hid.seq ?_; refine Hid.reg ?_; (conv => whnf); refine SLoad.on 0 rfl ?_; (conv => whnf); refine SStore.on 1 rfl ?_; (conv => whnf)
          refine Hid.ret ?_; (conv => whnf); refine SLoad.on 1 rfl ?_; (conv => whnf)
          rw [← hd]
          exact .v (le_setBox hls hb2) (.tup (.cons (weak_opK _) (.cons (.refl _) .nil)))
        · refine SIf.y Ty.mixed (by rw [hws, hl7, decide_eq_false (by simp only [List.length_nil] at hlen; omega)]; rfl) ?_
          rw [if_neg hlen] at hd
          refine Xc_h ?_; (conv => whnf); refine Hid.seq ?_; refine Hid.reg ?_; (conv => whnf); refine SStore.on 2 rfl ?_; (conv => whnf); refine Hid.ret ?_; (conv => whnf); refine SLoad.on 2 rfl ?_; (conv => whnf)
          rw [← hd]
          exact .v (le_setBox (le_new2 (le_new2 hle hb6) hb7) hb2) (.tup (.cons (weak_opK 0) (.cons (.refl _) .nil)))
      · refine SIf.y Ty.mixed (by simp [hne]) ?_
        rw [if_neg hne] at hd
        refine Xc_h ?_; (conv => whnf); refine Hid.exit ?_; (conv => whnf); refine Hid.reg ?_; (conv => whnf); refine ⟨_, IntWalk.i64_in _ (by omega), ?_⟩; (conv => whnf)
        exact ⟨i + 1, by omega, by repeat (first | exact trivial | refine ⟨by first | trivial | exact Weak.refl _ | exact Weak.tok _ _ _ | exact Weak.of_eq (congrArg (AV.int _) (by omega)) | exact Weak.of_eq (congrArg AV.bool (by fail)) | exact Weak.nils _ _ (.inr rfl), ?_⟩), .drop (.refl _), hlt, hd, le_new2 hle hb6⟩
    | cons f fs0 =>
      obtain ⟨fs, hfs⟩ : ∃ fs, fs = f :: fs0 := ⟨_, rfl⟩
      have hfv : fV (n, f :: fs0) = .agg [.str n, .slc 1 (fs.map fun f : Nat => AV.int .i64 ((f : Nat) : Int)) .full] := by rw [hfs]; rfl
      rw [hfv] at ga
      rw [← hfs] at hd hfn
      have hfsl : (fs.map fun f : Nat => AV.int .i64 ((f : Nat) : Int)).length = fs.length := by simp
      obtain ⟨hf5, hfn⟩ := hfn
      clear hfs hfv; refine Xc_h ?_; (conv => whnf); refine Hid.seq ?_; refine Hid.reg ?_; (conv => whnf); refine Hid.seq ?_; refine Hid.cond rfl ?_
      skip
      refine SIf.y Ty.mixed (decide_eq_true (by rw [hln]; omega)) ?_; refine Xc_h ?_; (conv => whnf); refine Hid.skip ?_; (conv => whnf); refine Hid.seq ?_; refine Hid.seq ?_; refine Hid.reg ?_; (conv => whnf)
      refine ⟨_, ⟨by first | omega | (rw [hln]; omega) | (rw [hws]; simp; omega) | (rw [hfsl]; omega) | fail, by first | exact ga | exact rfl⟩, ?_⟩
      (conv => whnf); intro b6 hb6; (conv => whnf); refine SStore.on 0 rfl ?_; (conv => whnf); refine Hid.seq ?_; refine Hid.seq ?_; refine Hid.regD ?_; refine SReg.t 1 [] (by decide +kernel) ?_; (conv => whnf); refine SLoad.on 0 rfl ?_; (conv => whnf)
      refine ⟨_, ⟨by first | omega | (rw [hln]; omega) | (rw [hws]; simp; omega) | (rw [hfsl]; omega) | fail, by first | exact ga | exact rfl⟩, ?_⟩
      (conv => whnf); refine Hid.cond rfl ?_
      by_cases hne : n = x
      · refine SIf.n Ty.mixed (by simp [hne]) ?_
        rw [if_pos hne] at hd
        refine Xc_h ?_; (conv => whnf); refine Hid.skip ?_; (conv => whnf); refine Hid.seq ?_; refine Hid.reg ?_; (conv => whnf); refine ⟨_, IntWalk.i64_in _ (by omega), ?_⟩; (conv => whnf); intro b7 hb7; (conv => whnf); refine SStore.on 0 rfl ?_; (conv => whnf); refine Hid.seq ?_; refine Hid.seq ?_; refine Hid.reg ?_; (conv => whnf); refine SLoad.on 1 rfl ?_; (conv => whnf)
        refine ⟨_, IntWalk.i64_in _ (by omega), ?_⟩; (conv => whnf); refine Hid.cond rfl ?_
        by_cases hlen : ws.length = fs.length
        · refine SIf.n Ty.mixed (by rw [hws, hl7, hfsl, decide_eq_true (by omega)]; rfl) ?_
          rw [if_pos hlen] at hd
          refine Xc_h ?_; (conv => whnf); refine Hid.skip ?_; (conv => whnf); refine Hid.seq ?_; refine Hid.seq ?_; refine Hid.reg ?_; (conv => whnf); refine SLoad.on 1 rfl ?_; (conv => whnf); refine Hid.block ?_; refine Hid.loop ?_
          have hle7 : St.Le σ ((((τ.setBox b6 [.str [], .nils]).setBox b6 [.str n, .slc 1 (fs.map fun f : Nat => AV.int .i64 ((f : Nat) : Int)) .full]).setBox b7 (oC op0 .nils)).setBox b7 (oC (opK ((i : Int) + 1)) .nils)) := le_new2 (le_new2 hle hb6) hb7
          refine SLoop.weakBox 0 rfl (weak_cells ((i : Int) + 1)) ?_
          refine SLoop.by Ty.mixed (fun ((j, o) : Nat × OpV) => fs.length - j) (fun (j, o) => [(2, .ptr b2 0), (4, .slc 1 (strs (x :: ws)) .no), (7, .ptr b7 0), (37, .slc 1 (fs.map fun f : Nat => AV.int .i64 ((f : Nat) : Int)) .full), (38, .int .i64 (fs.map fun f : Nat => AV.int .i64 ((f : Nat) : Int)).length), (39, .int .i64 j)]) (fun (j, o) => [(b7, oC o (dB o.data)), (b2, oC op0 .nils)]) (fun (j, o) s => j ≤ fs.length ∧ fillR o (fs.drop j) (ws.drop j) = fillR (opK ((i : Int) + 1)) fs ws ∧ St.Le σ s) (0, opK ((i : Int) + 1)) ⟨by repeat (first | exact trivial | refine ⟨by first | trivial | exact Weak.refl _ | exact Weak.tok _ _ _ | exact Weak.of_eq (congrArg (AV.int _) (by omega)) | exact Weak.of_eq (congrArg AV.bool (by fail)) | exact Weak.nils _ _ (.inr rfl), ?_⟩), ?_, by simp, rfl, le_setBox hle7 (le_none (le_new2 hle hb6) hb7)⟩ ?_
          · exact .keep (.drop (.keep .nil))
          rintro ⟨j, o⟩ s ⟨hj, hf, hls⟩
          dsimp only at hj hf hls ⊢
          by_cases hjl : j < fs.length
          · have gf : (fs.map fun f : Nat => AV.int .i64 ((f : Nat) : Int))[j]? = some (.int .i64 fs[j]) := by simp [hjl]
            have hjw : j < ws.length := by omega
            have gw : (strs (x :: ws))[((j : Int) + 1).toNat]? = some (.str ws[j]) := by
              rw [show ((j : Int) + 1).toNat = j + 1 by omega]; simp [strs, hjw]
            have hf9 := hfn _ (List.getElem_mem hjl)
            have hw9 := hml ws[j] (by simp)
            rw [List.drop_eq_getElem_cons hjl, List.drop_eq_getElem_cons hjw, fillR] at hf
            generalize fs[j] = f9 at *
            generalize ws[j] = w9 at *
            refine Xc_h ?_; (conv => whnf); refine Hid.seq ?_; refine Hid.reg ?_; (conv => whnf); refine Hid.seq ?_; refine Hid.cond rfl ?_
            skip
            refine SIf.y Ty.mixed (decide_eq_true (by rw [hfsl]; omega)) ?_; refine Xc_h ?_; (conv => whnf); refine Hid.skip ?_; (conv => whnf); refine Hid.seq ?_; refine Hid.seq ?_; refine Hid.reg ?_; (conv => whnf)
            refine ⟨_, ⟨by first | omega | (rw [hln]; omega) | (rw [hws]; simp; omega) | (rw [hfsl]; omega) | fail, by first | exact gf | exact ⟨by omega, gw⟩ | exact gw⟩, ?_⟩
            (conv => whnf); refine Hid.seq ?_; refine Hid.regD ?_; refine SReg.d [0, 1, 2, 3, 4, 5, 6, 7, 8] [0, 0, 0, 0, 0, 0, 0, 2, 0] (by decide +kernel) ?_; (conv => whnf); (conv => whnf); refine SCall.p (by exact place_any w0 b7 f9 hf9) ?_; (conv => whnf); refine ⟨_, IntWalk.i64_in _ (by omega), ?_⟩; (conv => whnf)
            refine ⟨_, ⟨by first | omega | (rw [hln]; omega) | (rw [hws]; simp; omega) | (rw [hfsl]; omega) | fail, by first | exact gf | exact ⟨by omega, gw⟩ | exact gw⟩, ?_⟩
            (conv => whnf); refine SCall.wK (fun hK => take_any w0 hL _ b7 f9 hf9 o w9 (by omega) (hK.get (i := 0) rfl)) rfl ?_; rintro r s1 ⟨rfl, rfl⟩ hB; refine ⟨_, hB.set (i := 0) rfl, ?_⟩; (conv => whnf); refine Hid.cond rfl ?_
            skip
            cases hk : (setF o f9 w9).2 with
            | true =>
              refine SIf.n Ty.mixed rfl ?_; refine Xc_h ?_; (conv => whnf); refine Hid.skip ?_; (conv => whnf); refine Hid.reg ?_; (conv => whnf); refine ⟨_, IntWalk.i64_in _ (by omega), ?_⟩; (conv => whnf)
              rw [if_pos hk] at hf
              exact ⟨(j + 1, (setF o f9 w9).1), by show fs.length - (j + 1) < fs.length - j; omega, by repeat (first | exact trivial | refine ⟨by first | trivial | exact Weak.refl _ | exact Weak.tok _ _ _ | exact Weak.of_eq (congrArg (AV.int _) (by omega)) | exact Weak.of_eq (congrArg AV.bool (by fail)) | exact Weak.nils _ _ (.inr rfl), ?_⟩), .refl _, hjl, hf, le_setBox hls (le_none (le_new2 hle hb6) hb7)⟩
            | false =>
              refine SIf.y Ty.mixed rfl ?_; refine Xc_h ?_; (conv => whnf); refine Hid.seq ?_; refine Hid.reg ?_; (conv => whnf); refine SStore.on 1 rfl ?_; (conv => whnf); refine Hid.ret ?_; (conv => whnf); refine SLoad.on 1 rfl ?_; (conv => whnf)
              rw [if_neg (by rw [hk]; simp)] at hf
              rw [← hd, ← hf]
              exact .v (le_setBox (le_setBox hls (le_none (le_new2 hle hb6) hb7)) hb2) (.tup (.cons (weak_opK 0) (.cons (.refl _) .nil)))
          · have hge : j = fs.length := by omega
            subst hge
            rw [List.drop_length, fillR] at hf
            refine Xc_h ?_; (conv => whnf); refine Hid.seq ?_; refine Hid.reg ?_; (conv => whnf); refine Hid.seq ?_; refine Hid.cond rfl ?_
            skip
            refine SIf.n Ty.mixed (decide_eq_false (by rw [hfsl]; omega)) ?_; refine Xc_h ?_; (conv => whnf); refine Hid.exit ?_; (conv => whnf); refine Hid.seq ?_; refine Hid.reg ?_; (conv => whnf); refine SLoad.on 0 rfl ?_; (conv => whnf); refine SStore.on 1 rfl ?_; (conv => whnf); refine Hid.ret ?_; (conv => whnf); refine SLoad.on 1 rfl ?_; (conv => whnf)
            rw [← hd, ← hf]
            exact .p (le_setBox hls hb2) rfl
        · refine SIf.y Ty.mixed (by rw [hws, hl7, hfsl, decide_eq_false (by omega)]; rfl) ?_
          rw [if_neg hlen] at hd
          refine Xc_h ?_; (conv => whnf); refine Hid.seq ?_; refine Hid.reg ?_; (conv => whnf); refine SStore.on 2 rfl ?_; (conv => whnf); refine Hid.ret ?_; (conv => whnf); refine SLoad.on 2 rfl ?_; (conv => whnf)
          rw [← hd]
          exact .v (le_setBox (le_new2 (le_new2 hle hb6) hb7) hb2) (.tup (.cons (weak_opK 0) (.cons (.refl _) .nil)))
      · refine SIf.y Ty.mixed (by simp [hne]) ?_
        rw [if_neg hne] at hd
        refine Xc_h ?_; (conv => whnf); refine Hid.exit ?_; (conv => whnf); refine Hid.reg ?_; (conv => whnf); refine ⟨_, IntWalk.i64_in _ (by omega), ?_⟩; (conv => whnf)
        exact ⟨i + 1, by omega, by repeat (first | exact trivial | refine ⟨by first | trivial | exact Weak.refl _ | exact Weak.tok _ _ _ | exact Weak.of_eq (congrArg (AV.int _) (by omega)) | exact Weak.of_eq (congrArg AV.bool (by fail)) | exact Weak.nils _ _ (.inr rfl), ?_⟩), .drop (.refl _), hlt, hd, le_new2 hle hb6⟩
  · have hge : i = fl.length := by omega
    subst hge
    rw [List.drop_length, parseAt] at hd
    refine Xc_h ?_; (conv => whnf); refine Hid.seq ?_; refine Hid.reg ?_; (conv => whnf); refine Hid.seq ?_; refine Hid.cond rfl ?_
    skip
    refine SIf.n Ty.mixed (decide_eq_false (by rw [hln]; omega)) ?_; refine Xc_h ?_; (conv => whnf); refine Hid.exit ?_; (conv => whnf); refine Hid.seq ?_; refine Hid.reg ?_; (conv => whnf); refine SStore.on 0 rfl ?_; (conv => whnf); refine Hid.ret ?_; (conv => whnf); refine SLoad.on 0 rfl ?_; (conv => whnf)
    rw [← hd]
    exact .v (le_setBox hle hb2) (.tup (.cons (weak_opK 0) (.cons (.refl _) .nil)))
end Go.Proofs.YtjcikceophcooaaDoor
end
section
set_option linter.unusedVariables false
namespace Go.Proofs.YtjcikceophcooaaDoor
open Go.Al
theorem pcs_lone {c : UInt8} : ∀ {l : List UInt8}, (∀ b ∈ l, b ≠ c) → pcs c l = [l]
  | [], _ => rfl
  | b :: l, h => by rw [pcs, if_neg (h b (by simp)), pcs_lone fun x hx => h x (by simp [hx])]
theorem pcs_cut {c : UInt8} : ∀ {k : Nat} {l : List UInt8}, (∀ b ∈ l.take k, b ≠ c) → l[k]? = some c → pcs c l = l.take k :: pcs c (l.drop (k + 1))
  | 0, [], _, h => by simp at h
  | 0, b :: l, _, h => by
    obtain rfl : b = c := by simpa using h
    simp [pcs]
  | k + 1, [], _, h => by simp at h
  | k + 1, b :: l, hn, h => by
    have ih := pcs_cut (k := k) (l := l) (fun x hx => hn x (by simp [hx])) (by simpa using h)
    rw [pcs, if_neg (hn b (by simp)), ih]
    simp
end Go.Proofs.YtjcikceophcooaaDoor
end
section
set_option linter.unusedVariables false
set_option linter.unusedSimpArgs false
set_option maxRecDepth 100000
set_option maxHeartbeats 2000000
namespace Go.Proofs.YtjcikceophcooaaDoor
open Go.Al Go.RowKit
theorem strs_snoc22 (l : List (List UInt8)) (x : List UInt8) : strs l ++ [.str x] = strs (l ++ [x]) := by simp [strs]
theorem strs_len22 (l : List (List UInt8)) : (strs l).length = l.length := by simp [strs]
theorem refWords_any (w0 : Base) (s : List UInt8) (c : UInt8) (hs : s.length ≤ 1000000000) : CallP Tryd.prog w0 45 [.str s, .int .u8 c.toNat] (.slc 1 (strs (pcs c s)) .no) := fun σ => by
  refine CallW.h (B := []) Ty.tok Ty.mixed Tryd.func45 rfl Tryd.ntmps45 rfl (by simp) (by decide +kernel) (.nil σ) ?_
  (try refine Xc_h ?_); (try (conv => whnf)); repeat (first | refine Hid.seq ?_ | (refine Hid.reg ?_; (conv => whnf)) | refine Hid.regD ?_ | refine Hid.cond rfl ?_ | refine Hid.block ?_ | refine Hid.loop ?_ | (refine Hid.exit ?_; (conv => whnf)) | (refine Hid.ret ?_; (conv => whnf)) | (refine Hid.skip ?_; (conv => whnf)) | (refine Hid.label ?_; (conv => whnf)) | refine Hid.range ?_)
  repeat' (((first | refine SIf.y Ty.mixed (by first | exact rfl | assumption | fail) ?_ | refine SIf.n Ty.mixed (by first | exact rfl | assumption | fail) ?_ | refine SCond.y (by first | exact rfl | assumption | fail) ?_ | refine SCond.n (by first | exact rfl | assumption | fail) ?_ | refine SPick.y (by first | exact rfl | assumption | fail) ?_ | refine SPick.n (by first | exact rfl | assumption | fail) ?_ | refine SPick.b ?_ | refine SPick.i ?_ | fail | refine SLoad.on 0 rfl ?_ | refine SLoad.on 1 rfl ?_ | refine SLoad.on 2 rfl ?_ | refine SLoad.on 3 rfl ?_ | refine SLoad.on 4 rfl ?_ | refine SLoad.on 5 rfl ?_ | refine SStore.on 0 rfl ?_ | refine SStore.on 1 rfl ?_ | refine SStore.on 2 rfl ?_ | refine SStore.on 3 rfl ?_ | refine SStore.on 4 rfl ?_ | refine SStore.on 5 rfl ?_ | refine SBox.f ?_ | refine SCall.p (by fail) ?_ | fail | refine SApp.c rfl rfl (by first | assumption | exact Moves.more (by assumption) (by assumption) | fail) (by first | (simp only [length_aBytes, List.length_append, List.length_cons, List.length_nil, List.length_map, List.length_range]; omega) | omega | fail) fun tk1 σ1 hm => ?_ | refine SReg.t 0 [] (by decide +kernel) ?_ | refine And.intro (by first | omega | (simp only [List.length_cons, List.length_append, List.length_nil, List.length_map, length_aBytes, List.length_replicate, List.length_range]; omega) | fail) ?_ | refine ⟨_, ⟨by first | omega | (simp only [List.length_cons, List.length_append, List.length_nil, List.length_map, length_aBytes, List.length_replicate, List.length_range]; omega) | fail, by first | assumption | exact get_map (by assumption) | exact get_bytes (by assumption) | fail⟩, ?_⟩ | refine ⟨_, toBytes_aBytes _, ?_⟩ | refine ⟨_, by repeat (first | exact toB_nil | apply toB_cons | apply toB_consC _ (by first | omega | (simp only [List.length_cons, List.length_append, List.length_nil, List.length_map, length_aBytes, List.length_replicate, List.length_range]; omega) | fail)), ?_⟩ | refine ⟨_, IntWalk.i64_in _ (by first | omega | (simp only [List.length_cons, List.length_append, List.length_nil, List.length_map, length_aBytes, List.length_replicate, List.length_range]; omega) | fail), ?_⟩ | refine ⟨_, wrap_u8 _, ?_⟩ | refine ⟨_, rfl, ?_⟩ | refine ⟨true, fun b1 hb1 => ?_⟩ | intro b1 hb1 | fail); (try refine Xc_h ?_); (try (conv => whnf)); repeat (first | refine Hid.seq ?_ | (refine Hid.reg ?_; (conv => whnf)) | refine Hid.regD ?_ | refine Hid.cond rfl ?_ | refine Hid.block ?_ | refine Hid.loop ?_ | (refine Hid.exit ?_; (conv => whnf)) | (refine Hid.ret ?_; (conv => whnf)) | (refine Hid.skip ?_; (conv => whnf)) | (refine Hid.label ?_; (conv => whnf)) | refine Hid.range ?_)))
  refine SLoop.by Ty.mixed (fun ((i, done, from_, tk) : Nat × List (List UInt8) × Nat × Tok) => s.length + 1 - i) (fun (i, done, from_, tk) => [(0, .str s), (1, .int .u8 c.toNat), (5, .slc 1 (strs done) tk), (6, .int .i64 from_), (7, .int .i64 i)]) (fun _ => [])
    (fun (i, done, from_, tk) τ => i ≤ s.length + 1 ∧ (i ≤ s.length → from_ ≤ i ∧ done ++ pcs c (s.drop from_) = pcs c s ∧ (∀ b ∈ (s.drop from_).take (i - from_), b ≠ c)) ∧ (s.length < i → done = pcs c s) ∧ done.length ≤ i ∧ Moves σ .full τ tk) (0, [], 0, .full) ⟨by repeat (first | exact trivial | refine ⟨by first | trivial | exact Weak.refl _ | exact Weak.tok _ _ _ | exact Weak.of_eq (congrArg (AV.int _) (by omega)) | exact Weak.of_eq (congrArg AV.bool (by fail)) | exact Weak.nils _ _ (.inr rfl), ?_⟩), .none _, by omega, fun _ => ⟨by omega, rfl, by simp⟩, fun h => by omega, by simp, .full _⟩ ?_
  rintro ⟨i, done, from_, tk⟩ τ ⟨hi, hin, hout, hdl, hm⟩
  by_cases hle : i ≤ s.length
  · obtain ⟨hfi, hd, hne⟩ := hin hle
    clear hin hout
    have hslice : List.drop ((from_ : Int)).toNat (List.take ((i : Int)).toNat s) = (s.drop from_).take (i - from_) := by
      simp [List.drop_take]
    (try refine Xc_h ?_); (try (conv => whnf)); repeat (first | refine Hid.seq ?_ | (refine Hid.reg ?_; (conv => whnf)) | refine Hid.regD ?_ | refine Hid.cond rfl ?_ | refine Hid.block ?_ | refine Hid.loop ?_ | (refine Hid.exit ?_; (conv => whnf)) | (refine Hid.ret ?_; (conv => whnf)) | (refine Hid.skip ?_; (conv => whnf)) | (refine Hid.label ?_; (conv => whnf)) | refine Hid.range ?_)
    repeat' (((first | refine SIf.y Ty.mixed (by first | exact rfl | assumption | fail) ?_ | refine SIf.n Ty.mixed (by first | exact rfl | assumption | fail) ?_ | refine SCond.y (by first | exact rfl | assumption | fail) ?_ | refine SCond.n (by first | exact rfl | assumption | fail) ?_ | refine SPick.y (by first | exact rfl | assumption | fail) ?_ | refine SPick.n (by first | exact rfl | assumption | fail) ?_ | refine SPick.b ?_ | refine SPick.i ?_ | fail | refine SLoad.on 0 rfl ?_ | refine SLoad.on 1 rfl ?_ | refine SLoad.on 2 rfl ?_ | refine SLoad.on 3 rfl ?_ | refine SLoad.on 4 rfl ?_ | refine SLoad.on 5 rfl ?_ | refine SStore.on 0 rfl ?_ | refine SStore.on 1 rfl ?_ | refine SStore.on 2 rfl ?_ | refine SStore.on 3 rfl ?_ | refine SStore.on 4 rfl ?_ | refine SStore.on 5 rfl ?_ | refine SBox.f ?_ | refine SCall.p (by fail) ?_ | fail | refine SApp.c rfl rfl (by first | assumption | exact Moves.more (by assumption) (by assumption) | fail) (by (simp only [List.length_cons, List.length_nil, strs_len22]; omega)) fun tk1 σ1 hm => ?_ | refine SReg.t 0 [] (by decide +kernel) ?_ | refine And.intro (by first | omega | (simp only [List.length_cons, List.length_append, List.length_nil, List.length_map, length_aBytes, List.length_replicate, List.length_range]; omega) | fail) ?_ | refine ⟨_, ⟨by first | omega | (simp only [List.length_cons, List.length_append, List.length_nil, List.length_map, length_aBytes, List.length_replicate, List.length_range]; omega) | fail, by first | assumption | exact get_map (by assumption) | exact get_bytes (by assumption) | fail⟩, ?_⟩ | refine ⟨_, toBytes_aBytes _, ?_⟩ | refine ⟨_, by repeat (first | exact toB_nil | apply toB_cons | apply toB_consC _ (by first | omega | (simp only [List.length_cons, List.length_append, List.length_nil, List.length_map, length_aBytes, List.length_replicate, List.length_range]; omega) | fail)), ?_⟩ | refine ⟨_, IntWalk.i64_in _ (by first | omega | (simp only [List.length_cons, List.length_append, List.length_nil, List.length_map, length_aBytes, List.length_replicate, List.length_range]; omega) | fail), ?_⟩ | refine ⟨_, wrap_u8 _, ?_⟩ | refine ⟨_, rfl, ?_⟩ | refine ⟨true, fun b1 hb1 => ?_⟩ | intro b1 hb1 | fail); (try refine Xc_h ?_); (try (conv => whnf)); repeat (first | refine Hid.seq ?_ | (refine Hid.reg ?_; (conv => whnf)) | refine Hid.regD ?_ | refine Hid.cond rfl ?_ | refine Hid.block ?_ | refine Hid.loop ?_ | (refine Hid.exit ?_; (conv => whnf)) | (refine Hid.ret ?_; (conv => whnf)) | (refine Hid.skip ?_; (conv => whnf)) | (refine Hid.label ?_; (conv => whnf)) | refine Hid.range ?_)))
    refine SIf.y Ty.mixed (decide_eq_true (by omega)) ?_
    (try refine Xc_h ?_); (try (conv => whnf)); repeat (first | refine Hid.seq ?_ | (refine Hid.reg ?_; (conv => whnf)) | refine Hid.regD ?_ | refine Hid.cond rfl ?_ | refine Hid.block ?_ | refine Hid.loop ?_ | (refine Hid.exit ?_; (conv => whnf)) | (refine Hid.ret ?_; (conv => whnf)) | (refine Hid.skip ?_; (conv => whnf)) | (refine Hid.label ?_; (conv => whnf)) | refine Hid.range ?_)
    repeat' (((first | refine SIf.y Ty.mixed (by first | exact rfl | assumption | fail) ?_ | refine SIf.n Ty.mixed (by first | exact rfl | assumption | fail) ?_ | refine SCond.y (by first | exact rfl | assumption | fail) ?_ | refine SCond.n (by first | exact rfl | assumption | fail) ?_ | refine SPick.y (by first | exact rfl | assumption | fail) ?_ | refine SPick.n (by first | exact rfl | assumption | fail) ?_ | refine SPick.b ?_ | refine SPick.i ?_ | fail | refine SLoad.on 0 rfl ?_ | refine SLoad.on 1 rfl ?_ | refine SLoad.on 2 rfl ?_ | refine SLoad.on 3 rfl ?_ | refine SLoad.on 4 rfl ?_ | refine SLoad.on 5 rfl ?_ | refine SStore.on 0 rfl ?_ | refine SStore.on 1 rfl ?_ | refine SStore.on 2 rfl ?_ | refine SStore.on 3 rfl ?_ | refine SStore.on 4 rfl ?_ | refine SStore.on 5 rfl ?_ | refine SBox.f ?_ | refine SCall.p (by fail) ?_ | fail | refine SApp.c rfl rfl (by first | assumption | exact Moves.more (by assumption) (by assumption) | fail) (by (simp only [List.length_cons, List.length_nil, strs_len22]; omega)) fun tk1 σ1 hm => ?_ | refine SReg.t 0 [] (by decide +kernel) ?_ | refine And.intro (by first | omega | (simp only [List.length_cons, List.length_append, List.length_nil, List.length_map, length_aBytes, List.length_replicate, List.length_range]; omega) | fail) ?_ | refine ⟨_, ⟨by first | omega | (simp only [List.length_cons, List.length_append, List.length_nil, List.length_map, length_aBytes, List.length_replicate, List.length_range]; omega) | fail, by first | assumption | exact get_map (by assumption) | exact get_bytes (by assumption) | fail⟩, ?_⟩ | refine ⟨_, toBytes_aBytes _, ?_⟩ | refine ⟨_, by repeat (first | exact toB_nil | apply toB_cons | apply toB_consC _ (by first | omega | (simp only [List.length_cons, List.length_append, List.length_nil, List.length_map, length_aBytes, List.length_replicate, List.length_range]; omega) | fail)), ?_⟩ | refine ⟨_, IntWalk.i64_in _ (by first | omega | (simp only [List.length_cons, List.length_append, List.length_nil, List.length_map, length_aBytes, List.length_replicate, List.length_range]; omega) | fail), ?_⟩ | refine ⟨_, wrap_u8 _, ?_⟩ | refine ⟨_, rfl, ?_⟩ | refine ⟨true, fun b1 hb1 => ?_⟩ | intro b1 hb1 | fail); (try refine Xc_h ?_); (try (conv => whnf)); repeat (first | refine Hid.seq ?_ | (refine Hid.reg ?_; (conv => whnf)) | refine Hid.regD ?_ | refine Hid.cond rfl ?_ | refine Hid.block ?_ | refine Hid.loop ?_ | (refine Hid.exit ?_; (conv => whnf)) | (refine Hid.ret ?_; (conv => whnf)) | (refine Hid.skip ?_; (conv => whnf)) | (refine Hid.label ?_; (conv => whnf)) | refine Hid.range ?_)))
    by_cases hend : i = s.length
    · have d1 : decide ((i : Int) = (s.length : Int)) = true := decide_eq_true (by omega)
      have hall : pcs c (s.drop from_) = [(s.drop from_).take (i - from_)] := by
        have e : (s.drop from_).take (i - from_) = s.drop from_ := List.take_of_length_le (by simp; omega)
        rw [e] at hne ⊢
        exact pcs_lone hne
      repeat' (((first | refine SIf.y Ty.mixed (by first | exact rfl | assumption | fail) ?_ | refine SIf.n Ty.mixed (by first | exact rfl | assumption | fail) ?_ | refine SCond.y (by first | exact rfl | assumption | fail) ?_ | refine SCond.n (by first | exact rfl | assumption | fail) ?_ | refine SPick.y (by first | exact rfl | assumption | fail) ?_ | refine SPick.n (by first | exact rfl | assumption | fail) ?_ | refine SPick.b ?_ | refine SPick.i ?_ | fail | refine SLoad.on 0 rfl ?_ | refine SLoad.on 1 rfl ?_ | refine SLoad.on 2 rfl ?_ | refine SLoad.on 3 rfl ?_ | refine SLoad.on 4 rfl ?_ | refine SLoad.on 5 rfl ?_ | refine SStore.on 0 rfl ?_ | refine SStore.on 1 rfl ?_ | refine SStore.on 2 rfl ?_ | refine SStore.on 3 rfl ?_ | refine SStore.on 4 rfl ?_ | refine SStore.on 5 rfl ?_ | refine SBox.f ?_ | refine SCall.p (by fail) ?_ | fail | refine SApp.c rfl rfl (by first | assumption | exact Moves.more (by assumption) (by assumption) | fail) (by (simp only [List.length_cons, List.length_nil, strs_len22]; omega)) fun tk1 σ1 hm => ?_ | refine SReg.t 0 [] (by decide +kernel) ?_ | refine And.intro (by first | omega | (simp only [List.length_cons, List.length_append, List.length_nil, List.length_map, length_aBytes, List.length_replicate, List.length_range]; omega) | fail) ?_ | refine ⟨_, ⟨by first | omega | (simp only [List.length_cons, List.length_append, List.length_nil, List.length_map, length_aBytes, List.length_replicate, List.length_range]; omega) | fail, by first | assumption | exact get_map (by assumption) | exact get_bytes (by assumption) | fail⟩, ?_⟩ | refine ⟨_, toBytes_aBytes _, ?_⟩ | refine ⟨_, by repeat (first | exact toB_nil | apply toB_cons | apply toB_consC _ (by first | omega | (simp only [List.length_cons, List.length_append, List.length_nil, List.length_map, length_aBytes, List.length_replicate, List.length_range]; omega) | fail)), ?_⟩ | refine ⟨_, IntWalk.i64_in _ (by first | omega | (simp only [List.length_cons, List.length_append, List.length_nil, List.length_map, length_aBytes, List.length_replicate, List.length_range]; omega) | fail), ?_⟩ | refine ⟨_, wrap_u8 _, ?_⟩ | refine ⟨_, rfl, ?_⟩ | refine ⟨true, fun b1 hb1 => ?_⟩ | intro b1 hb1 | fail); (try refine Xc_h ?_); (try (conv => whnf)); repeat (first | refine Hid.seq ?_ | (refine Hid.reg ?_; (conv => whnf)) | refine Hid.regD ?_ | refine Hid.cond rfl ?_ | refine Hid.block ?_ | refine Hid.loop ?_ | (refine Hid.exit ?_; (conv => whnf)) | (refine Hid.ret ?_; (conv => whnf)) | (refine Hid.skip ?_; (conv => whnf)) | (refine Hid.label ?_; (conv => whnf)) | refine Hid.range ?_)))
      rw [hslice]
      refine ⟨(i + 1, done ++ [(s.drop from_).take (i - from_)], i + 1, tk1), by show s.length + 1 - (i + 1) < s.length + 1 - i; omega, ?_, .none _, by omega, fun h => by omega, fun _ => by rw [← hd, hall], by simp; omega, by assumption⟩
      rw [strs_snoc22]
      show xWeak [(0, .str s), (1, .int .u8 c.toNat), (5, .slc 1 (strs (done ++ [(s.drop from_).take (i - from_)])) tk1), (6, .int .i64 (i + 1 : Nat)), (7, .int .i64 (i + 1 : Nat))] _
      repeat (first | exact trivial | refine ⟨by first | trivial | exact Weak.refl _ | exact Weak.tok _ _ _ | exact Weak.of_eq (congrArg (AV.int _) (by omega)) | exact Weak.of_eq (congrArg AV.bool (by fail)) | exact Weak.nils _ _ (.inr rfl), ?_⟩)
    · have hlt : i < s.length := by omega
      have d1 : decide ((i : Int) = (s.length : Int)) = false := decide_eq_false (by omega)
      have gc : s[((i : Int)).toNat]? = some s[i] := by simp [hlt]
      have hgd : (s.drop from_)[i - from_]? = some s[i] := by rw [List.getElem?_drop, show from_ + (i - from_) = i by omega]; simp [hlt]
      by_cases heq : s[i] = c
      · have d2 : decide ((s[i].toNat : Int) = (c.toNat : Int)) = true := decide_eq_true (by rw [heq])
        have hcut : pcs c (s.drop from_) = (s.drop from_).take (i - from_) :: pcs c (s.drop (i + 1)) := by
          rw [pcs_cut hne (by rw [hgd, heq]), List.drop_drop, show from_ + (i - from_ + 1) = i + 1 by omega]
        generalize s[i] = q at *
        repeat' (((first | refine SIf.y Ty.mixed (by first | exact rfl | assumption | fail) ?_ | refine SIf.n Ty.mixed (by first | exact rfl | assumption | fail) ?_ | refine SCond.y (by first | exact rfl | assumption | fail) ?_ | refine SCond.n (by first | exact rfl | assumption | fail) ?_ | refine SPick.y (by first | exact rfl | assumption | fail) ?_ | refine SPick.n (by first | exact rfl | assumption | fail) ?_ | refine SPick.b ?_ | refine SPick.i ?_ | fail | refine SLoad.on 0 rfl ?_ | refine SLoad.on 1 rfl ?_ | refine SLoad.on 2 rfl ?_ | refine SLoad.on 3 rfl ?_ | refine SLoad.on 4 rfl ?_ | refine SLoad.on 5 rfl ?_ | refine SStore.on 0 rfl ?_ | refine SStore.on 1 rfl ?_ | refine SStore.on 2 rfl ?_ | refine SStore.on 3 rfl ?_ | refine SStore.on 4 rfl ?_ | refine SStore.on 5 rfl ?_ | refine SBox.f ?_ | refine SCall.p (by fail) ?_ | fail | refine SApp.c rfl rfl (by first | assumption | exact Moves.more (by assumption) (by assumption) | fail) (by (simp only [List.length_cons, List.length_nil, strs_len22]; omega)) fun tk1 σ1 hm => ?_ | refine SReg.t 0 [] (by decide +kernel) ?_ | refine And.intro (by first | omega | (simp only [List.length_cons, List.length_append, List.length_nil, List.length_map, length_aBytes, List.length_replicate, List.length_range]; omega) | fail) ?_ | refine ⟨_, ⟨by first | omega | (simp only [List.length_cons, List.length_append, List.length_nil, List.length_map, length_aBytes, List.length_replicate, List.length_range]; omega) | fail, by exact gc⟩, ?_⟩ | refine ⟨_, toBytes_aBytes _, ?_⟩ | refine ⟨_, by repeat (first | exact toB_nil | apply toB_cons | apply toB_consC _ (by first | omega | (simp only [List.length_cons, List.length_append, List.length_nil, List.length_map, length_aBytes, List.length_replicate, List.length_range]; omega) | fail)), ?_⟩ | refine ⟨_, IntWalk.i64_in _ (by first | omega | (simp only [List.length_cons, List.length_append, List.length_nil, List.length_map, length_aBytes, List.length_replicate, List.length_range]; omega) | fail), ?_⟩ | refine ⟨_, wrap_u8 _, ?_⟩ | refine ⟨_, rfl, ?_⟩ | refine ⟨true, fun b1 hb1 => ?_⟩ | intro b1 hb1 | fail); (try refine Xc_h ?_); (try (conv => whnf)); repeat (first | refine Hid.seq ?_ | (refine Hid.reg ?_; (conv => whnf)) | refine Hid.regD ?_ | refine Hid.cond rfl ?_ | refine Hid.block ?_ | refine Hid.loop ?_ | (refine Hid.exit ?_; (conv => whnf)) | (refine Hid.ret ?_; (conv => whnf)) | (refine Hid.skip ?_; (conv => whnf)) | (refine Hid.label ?_; (conv => whnf)) | refine Hid.range ?_)))
        rw [hslice]
        refine ⟨(i + 1, done ++ [(s.drop from_).take (i - from_)], i + 1, tk1), by show s.length + 1 - (i + 1) < s.length + 1 - i; omega, ?_, .none _, by omega, fun h => ⟨Nat.le_refl _, by rw [← hd, hcut, List.append_assoc]; rfl, by simp⟩, fun h => by omega, by simp; omega, by assumption⟩
        rw [strs_snoc22]
        show xWeak [(0, .str s), (1, .int .u8 c.toNat), (5, .slc 1 (strs (done ++ [(s.drop from_).take (i - from_)])) tk1), (6, .int .i64 (i + 1 : Nat)), (7, .int .i64 (i + 1 : Nat))] _
        repeat (first | exact trivial | refine ⟨by first | trivial | exact Weak.refl _ | exact Weak.tok _ _ _ | exact Weak.of_eq (congrArg (AV.int _) (by omega)) | exact Weak.of_eq (congrArg AV.bool (by fail)) | exact Weak.nils _ _ (.inr rfl), ?_⟩)
      · have d2 : decide ((s[i].toNat : Int) = (c.toNat : Int)) = false := decide_eq_false fun e => heq (UInt8.toNat_inj.1 (by omega))
        have hne' : ∀ b ∈ (s.drop from_).take (i + 1 - from_), b ≠ c := by
          intro b hb
          rw [show i + 1 - from_ = i - from_ + 1 by omega, List.take_add_one, hgd] at hb
          rcases List.mem_append.1 hb with hb | hb
          · exact hne b hb
          · simp at hb; rw [hb]; exact heq
        generalize s[i] = q at *
        repeat' (((first | refine SIf.y Ty.mixed (by first | exact rfl | assumption | fail) ?_ | refine SIf.n Ty.mixed (by first | exact rfl | assumption | fail) ?_ | refine SCond.y (by first | exact rfl | assumption | fail) ?_ | refine SCond.n (by first | exact rfl | assumption | fail) ?_ | refine SPick.y (by first | exact rfl | assumption | fail) ?_ | refine SPick.n (by first | exact rfl | assumption | fail) ?_ | refine SPick.b ?_ | refine SPick.i ?_ | fail | refine SLoad.on 0 rfl ?_ | refine SLoad.on 1 rfl ?_ | refine SLoad.on 2 rfl ?_ | refine SLoad.on 3 rfl ?_ | refine SLoad.on 4 rfl ?_ | refine SLoad.on 5 rfl ?_ | refine SStore.on 0 rfl ?_ | refine SStore.on 1 rfl ?_ | refine SStore.on 2 rfl ?_ | refine SStore.on 3 rfl ?_ | refine SStore.on 4 rfl ?_ | refine SStore.on 5 rfl ?_ | refine SBox.f ?_ | refine SCall.p (by fail) ?_ | fail | refine SApp.c rfl rfl (by first | assumption | exact Moves.more (by assumption) (by assumption) | fail) (by (simp only [List.length_cons, List.length_nil, strs_len22]; omega)) fun tk1 σ1 hm => ?_ | refine SReg.t 0 [] (by decide +kernel) ?_ | refine And.intro (by first | omega | (simp only [List.length_cons, List.length_append, List.length_nil, List.length_map, length_aBytes, List.length_replicate, List.length_range]; omega) | fail) ?_ | refine ⟨_, ⟨by first | omega | (simp only [List.length_cons, List.length_append, List.length_nil, List.length_map, length_aBytes, List.length_replicate, List.length_range]; omega) | fail, by exact gc⟩, ?_⟩ | refine ⟨_, toBytes_aBytes _, ?_⟩ | refine ⟨_, by repeat (first | exact toB_nil | apply toB_cons | apply toB_consC _ (by first | omega | (simp only [List.length_cons, List.length_append, List.length_nil, List.length_map, length_aBytes, List.length_replicate, List.length_range]; omega) | fail)), ?_⟩ | refine ⟨_, IntWalk.i64_in _ (by first | omega | (simp only [List.length_cons, List.length_append, List.length_nil, List.length_map, length_aBytes, List.length_replicate, List.length_range]; omega) | fail), ?_⟩ | refine ⟨_, wrap_u8 _, ?_⟩ | refine ⟨_, rfl, ?_⟩ | refine ⟨true, fun b1 hb1 => ?_⟩ | intro b1 hb1 | fail); (try refine Xc_h ?_); (try (conv => whnf)); repeat (first | refine Hid.seq ?_ | (refine Hid.reg ?_; (conv => whnf)) | refine Hid.regD ?_ | refine Hid.cond rfl ?_ | refine Hid.block ?_ | refine Hid.loop ?_ | (refine Hid.exit ?_; (conv => whnf)) | (refine Hid.ret ?_; (conv => whnf)) | (refine Hid.skip ?_; (conv => whnf)) | (refine Hid.label ?_; (conv => whnf)) | refine Hid.range ?_)))
        exact ⟨(i + 1, done, from_, tk), by show s.length + 1 - (i + 1) < s.length + 1 - i; omega, by repeat (first | exact trivial | refine ⟨by first | trivial | exact Weak.refl _ | exact Weak.tok _ _ _ | exact Weak.of_eq (congrArg (AV.int _) (by omega)) | exact Weak.of_eq (congrArg AV.bool (by fail)) | exact Weak.nils _ _ (.inr rfl), ?_⟩), .none _, by omega, fun h => ⟨by omega, hd, hne'⟩, fun h => by omega, by omega, hm⟩
  · have hdone := hout (by omega)
    (try refine Xc_h ?_); (try (conv => whnf)); repeat (first | refine Hid.seq ?_ | (refine Hid.reg ?_; (conv => whnf)) | refine Hid.regD ?_ | refine Hid.cond rfl ?_ | refine Hid.block ?_ | refine Hid.loop ?_ | (refine Hid.exit ?_; (conv => whnf)) | (refine Hid.ret ?_; (conv => whnf)) | (refine Hid.skip ?_; (conv => whnf)) | (refine Hid.label ?_; (conv => whnf)) | refine Hid.range ?_)
    repeat' (((first | refine SIf.y Ty.mixed (by first | exact rfl | assumption | fail) ?_ | refine SIf.n Ty.mixed (by first | exact rfl | assumption | fail) ?_ | refine SCond.y (by first | exact rfl | assumption | fail) ?_ | refine SCond.n (by first | exact rfl | assumption | fail) ?_ | refine SPick.y (by first | exact rfl | assumption | fail) ?_ | refine SPick.n (by first | exact rfl | assumption | fail) ?_ | refine SPick.b ?_ | refine SPick.i ?_ | fail | refine SLoad.on 0 rfl ?_ | refine SLoad.on 1 rfl ?_ | refine SLoad.on 2 rfl ?_ | refine SLoad.on 3 rfl ?_ | refine SLoad.on 4 rfl ?_ | refine SLoad.on 5 rfl ?_ | refine SStore.on 0 rfl ?_ | refine SStore.on 1 rfl ?_ | refine SStore.on 2 rfl ?_ | refine SStore.on 3 rfl ?_ | refine SStore.on 4 rfl ?_ | refine SStore.on 5 rfl ?_ | refine SBox.f ?_ | refine SCall.p (by fail) ?_ | fail | refine SApp.c rfl rfl (by first | assumption | exact Moves.more (by assumption) (by assumption) | fail) (by (simp only [List.length_cons, List.length_nil, strs_len22]; omega)) fun tk1 σ1 hm => ?_ | refine SReg.t 0 [] (by decide +kernel) ?_ | refine And.intro (by first | omega | (simp only [List.length_cons, List.length_append, List.length_nil, List.length_map, length_aBytes, List.length_replicate, List.length_range]; omega) | fail) ?_ | refine ⟨_, ⟨by first | omega | (simp only [List.length_cons, List.length_append, List.length_nil, List.length_map, length_aBytes, List.length_replicate, List.length_range]; omega) | fail, by exact gc⟩, ?_⟩ | refine ⟨_, toBytes_aBytes _, ?_⟩ | refine ⟨_, by repeat (first | exact toB_nil | apply toB_cons | apply toB_consC _ (by first | omega | (simp only [List.length_cons, List.length_append, List.length_nil, List.length_map, length_aBytes, List.length_replicate, List.length_range]; omega) | fail)), ?_⟩ | refine ⟨_, IntWalk.i64_in _ (by first | omega | (simp only [List.length_cons, List.length_append, List.length_nil, List.length_map, length_aBytes, List.length_replicate, List.length_range]; omega) | fail), ?_⟩ | refine ⟨_, wrap_u8 _, ?_⟩ | refine ⟨_, rfl, ?_⟩ | refine ⟨true, fun b1 hb1 => ?_⟩ | intro b1 hb1 | fail); (try refine Xc_h ?_); (try (conv => whnf)); repeat (first | refine Hid.seq ?_ | (refine Hid.reg ?_; (conv => whnf)) | refine Hid.regD ?_ | refine Hid.cond rfl ?_ | refine Hid.block ?_ | refine Hid.loop ?_ | (refine Hid.exit ?_; (conv => whnf)) | (refine Hid.ret ?_; (conv => whnf)) | (refine Hid.skip ?_; (conv => whnf)) | (refine Hid.label ?_; (conv => whnf)) | refine Hid.range ?_)))
    refine SIf.n Ty.mixed (decide_eq_false (by omega)) ?_
    (try refine Xc_h ?_); (try (conv => whnf)); repeat (first | refine Hid.seq ?_ | (refine Hid.reg ?_; (conv => whnf)) | refine Hid.regD ?_ | refine Hid.cond rfl ?_ | refine Hid.block ?_ | refine Hid.loop ?_ | (refine Hid.exit ?_; (conv => whnf)) | (refine Hid.ret ?_; (conv => whnf)) | (refine Hid.skip ?_; (conv => whnf)) | (refine Hid.label ?_; (conv => whnf)) | refine Hid.range ?_)
    repeat' (((first | refine SIf.y Ty.mixed (by first | exact rfl | assumption | fail) ?_ | refine SIf.n Ty.mixed (by first | exact rfl | assumption | fail) ?_ | refine SCond.y (by first | exact rfl | assumption | fail) ?_ | refine SCond.n (by first | exact rfl | assumption | fail) ?_ | refine SPick.y (by first | exact rfl | assumption | fail) ?_ | refine SPick.n (by first | exact rfl | assumption | fail) ?_ | refine SPick.b ?_ | refine SPick.i ?_ | fail | refine SLoad.on 0 rfl ?_ | refine SLoad.on 1 rfl ?_ | refine SLoad.on 2 rfl ?_ | refine SLoad.on 3 rfl ?_ | refine SLoad.on 4 rfl ?_ | refine SLoad.on 5 rfl ?_ | refine SStore.on 0 rfl ?_ | refine SStore.on 1 rfl ?_ | refine SStore.on 2 rfl ?_ | refine SStore.on 3 rfl ?_ | refine SStore.on 4 rfl ?_ | refine SStore.on 5 rfl ?_ | refine SBox.f ?_ | refine SCall.p (by fail) ?_ | fail | refine SApp.c rfl rfl (by first | assumption | exact Moves.more (by assumption) (by assumption) | fail) (by (simp only [List.length_cons, List.length_nil, strs_len22]; omega)) fun tk1 σ1 hm => ?_ | refine SReg.t 0 [] (by decide +kernel) ?_ | refine And.intro (by first | omega | (simp only [List.length_cons, List.length_append, List.length_nil, List.length_map, length_aBytes, List.length_replicate, List.length_range]; omega) | fail) ?_ | refine ⟨_, ⟨by first | omega | (simp only [List.length_cons, List.length_append, List.length_nil, List.length_map, length_aBytes, List.length_replicate, List.length_range]; omega) | fail, by exact gc⟩, ?_⟩ | refine ⟨_, toBytes_aBytes _, ?_⟩ | refine ⟨_, by repeat (first | exact toB_nil | apply toB_cons | apply toB_consC _ (by first | omega | (simp only [List.length_cons, List.length_append, List.length_nil, List.length_map, length_aBytes, List.length_replicate, List.length_range]; omega) | fail)), ?_⟩ | refine ⟨_, IntWalk.i64_in _ (by first | omega | (simp only [List.length_cons, List.length_append, List.length_nil, List.length_map, length_aBytes, List.length_replicate, List.length_range]; omega) | fail), ?_⟩ | refine ⟨_, wrap_u8 _, ?_⟩ | refine ⟨_, rfl, ?_⟩ | refine ⟨true, fun b1 hb1 => ?_⟩ | intro b1 hb1 | fail); (try refine Xc_h ?_); (try (conv => whnf)); repeat (first | refine Hid.seq ?_ | (refine Hid.reg ?_; (conv => whnf)) | refine Hid.regD ?_ | refine Hid.cond rfl ?_ | refine Hid.block ?_ | refine Hid.loop ?_ | (refine Hid.exit ?_; (conv => whnf)) | (refine Hid.ret ?_; (conv => whnf)) | (refine Hid.skip ?_; (conv => whnf)) | (refine Hid.label ?_; (conv => whnf)) | refine Hid.range ?_)))
    rw [hdone]
    exact .v hm.le (.tok _ _ _)
end Go.Proofs.YtjcikceophcooaaDoor
end
section
set_option linter.unusedVariables false
set_option linter.unusedSimpArgs false
set_option maxRecDepth 100000
set_option maxHeartbeats 4000000
namespace Go.Proofs.YtjcikceophcooaaDoor
open Go.Al Go.RowKit
def flatV (o : OpV) : List AV := [.ifc 3 (.int .i64 o.kind), .ifc 3 (.int .i64 o.sub), .ifc 3 (.int .i64 o.n), .ifc 3 (.int .i64 o.seq), .ifc 9 (.str o.name), .ifc 9 (.str o.topic), .ifc 9 (.str o.want), .ifc 9 (.str o.body), .ifc 9 (.str o.attr)]
theorem flat_any (w0 : Base) (o : OpV) : CallP Tryd.prog w0 49 [eOp o] (.agg (flatV o)) := by
  refine CallP.h Ty.tok Ty.mixed Tryd.func49 rfl Tryd.ntmps49 rfl (by simp) (by decide +kernel) fun σ => ?_
  (conv => whnf); refine Hid.seq ?_; refine Hid.reg ?_; (conv => whnf); refine SBox.f ?_; (conv => whnf); intro b2 hb2; (conv => whnf); refine Hid.seq ?_; refine Hid.reg ?_; (conv => whnf); refine SStore.on 0 rfl ?_; (conv => whnf); refine Hid.ret ?_; (conv => whnf); refine SLoad.on 0 rfl ?_; (conv => whnf); exact .p (le_new2 (.refl _) hb2) rfl
instance : IfcEq Tryd.prog 90 9 := by
  obtain ⟨i, hi⟩ : ∃ i, Tryd.prog.info? 20 = some i := Option.isSome_iff_exists.1 (by kernel_rfl)
  exact ⟨_, _, i, Tryd.underlying90, Tryd.underlying20, hi, by kernel_rfl, by kernel_rfl⟩
theorem ifcD_int (n : Int) : ifcD Tryd.prog (.ifc 3 (.int .i64 n)) = true := by
  rw [ifcD, show Tryd.prog.underlying 3 = _ from Tryd.underlying3, show ((Tryd.prog.info? 3).map (·.comparable)).getD false = true by kernel_rfl]
  rfl
theorem ifcD_str (s : List UInt8) : ifcD Tryd.prog (.ifc 9 (.str s)) = true := by
  rw [ifcD, show Tryd.prog.underlying 9 = _ from Tryd.underlying9, show ((Tryd.prog.info? 9).map (·.comparable)).getD false = true by kernel_rfl]
  rfl
theorem flatV_ok (o : OpV) : ∀ z ∈ flatV o, ifcD Tryd.prog z = true := by
  intro z hz
  simp only [flatV, List.mem_cons, List.not_mem_nil, or_false] at hz
  rcases hz with rfl | rfl | rfl | rfl | rfl | rfl | rfl | rfl | rfl
  all_goals first | exact ifcD_int _ | exact ifcD_str _
def flatEq (a b : OpV) : Bool := (a.kind == b.kind && (a.sub == b.sub && (a.n == b.n && (a.seq == b.seq && (a.name == b.name && (a.topic == b.topic && (a.want == b.want && (a.body == b.body && (a.attr == b.attr && true)))))))))
theorem flatV_eq (a b : OpV) : eqIfcs (flatV a) (flatV b) = some (flatEq a b) := by
  simp only [flatV, eqIfcs, eqIfc, eqCell, if_true, flatEq]
theorem flatEq_iff (a b : OpV) : (decide (a.data = b.data) && flatEq a b) = decide (a = b) := by
  obtain ⟨a1, a2, a3, a4, a5, a6, a7, a8, a9, a10⟩ := a
  obtain ⟨b1, b2, b3, b4, b5, b6, b7, b8, b9, b10⟩ := b
  rw [Bool.eq_iff_iff]
  simp only [flatEq, Bool.and_eq_true, beq_iff_eq, decide_eq_true_eq, OpV.mk.injEq, Bool.and_true, and_true]
  constructor
  · rintro ⟨h1, h2, h3, h4, h5, h6, h7, h8, h9, h10⟩
    exact ⟨h2, h3, h4, h5, h6, h7, h8, h9, h10, h1⟩
  · rintro ⟨h1, h2, h3, h4, h5, h6, h7, h8, h9, h10⟩
    exact ⟨h10, h1, h2, h3, h4, h5, h6, h7, h8, h9⟩
theorem same_any (w0 : Base) (a b : OpV) : CallP Tryd.prog w0 39 [eOp a, eOp b] (.bool (decide (a = b))) := by
  rw [← flatEq_iff]
  have h1 := flat_any w0 a
  have h2 := flat_any w0 b
  refine CallP.h Ty.tok Ty.mixed Tryd.func39 rfl Tryd.ntmps39 rfl (by simp) (by decide +kernel) fun σ => ?_
  cases hd : decide (a.data = b.data) with
  | true =>
    (conv => whnf); refine Hid.seq ?_; refine Hid.reg ?_; (conv => whnf); refine SBox.f ?_; (conv => whnf); refine SBox.f ?_; (conv => whnf); refine Hid.seq ?_; refine Hid.reg ?_; (conv => whnf); refine ⟨_, toBytes_aBytes _, ?_⟩; (conv => whnf); refine ⟨_, toBytes_aBytes _, ?_⟩; (conv => whnf); refine Hid.seq ?_; refine Hid.reg ?_; (conv => whnf); refine Hid.seq ?_; refine Hid.regD ?_
    refine SReg.t 0 [] (by decide +kernel) ?_; (conv => whnf); refine SCond.y (by assumption) ?_; (conv => whnf); refine SCond.y (by assumption) ?_; (conv => whnf); refine SCond.y (by assumption) ?_; (conv => whnf); refine SCall.p (by exact h1) ?_; (conv => whnf); refine SCond.y (by assumption) ?_; (conv => whnf); refine SCond.y (by assumption) ?_; (conv => whnf); refine SCond.y (by assumption) ?_
    (conv => whnf); refine SCall.p (by exact h2) ?_; (conv => whnf); refine SCond.y (by assumption) ?_; (conv => whnf); refine SEqR.ifc (n := 9) rfl rfl rfl (flatV_ok a) (flatV_eq a b) rfl ?_; (conv => whnf); refine SPick.y (by assumption) ?_; (conv => whnf); refine Hid.ret ?_; (conv => whnf); exact .p (.refl _) rfl
  | false =>
    (conv => whnf); refine Hid.seq ?_; refine Hid.reg ?_; (conv => whnf); refine SBox.f ?_; (conv => whnf); refine SBox.f ?_; (conv => whnf); refine Hid.seq ?_; refine Hid.reg ?_; (conv => whnf); refine ⟨_, toBytes_aBytes _, ?_⟩; (conv => whnf); refine ⟨_, toBytes_aBytes _, ?_⟩; (conv => whnf); refine Hid.seq ?_; refine Hid.reg ?_; (conv => whnf); refine Hid.seq ?_; refine Hid.regD ?_
    refine SReg.t 0 [] (by decide +kernel) ?_; (conv => whnf); refine SCond.n (by assumption) ?_; (conv => whnf); refine SCond.n (by assumption) ?_; (conv => whnf); refine SCond.n (by assumption) ?_; (conv => whnf); refine SCond.n (by assumption) ?_; (conv => whnf); refine SCond.n (by assumption) ?_; (conv => whnf); refine SCond.n (by assumption) ?_; (conv => whnf)
    refine SCond.n (by assumption) ?_; (conv => whnf); refine SPick.n (by assumption) ?_; (conv => whnf); refine Hid.ret ?_; (conv => whnf); exact .p (.refl _) rfl
end Go.Proofs.YtjcikceophcooaaDoor
end
section
set_option linter.unusedVariables false
set_option linter.unusedSimpArgs false
set_option maxRecDepth 100000
set_option maxHeartbeats 4000000
namespace Go.Proofs.YtjcikceophcooaaDoor
open Go.Al Go.RowKit
instance : OwnF Tryd.prog 38 := ⟨_, Tryd.func38, by kernel_rfl, by kernel_rfl⟩
theorem strs_vals {G : Gh} {w : World} : ∀ (l : List (List UInt8)) (vs : List Value), RelL G w ((strs l).flatMap AV.cells) vs → vs = l.map bstr
  | [], vs, h => by cases h; rfl
  | p :: l, vs, h => by
    cases h with
    | cons h t =>
      cases h
      rw [strs_vals l _ t]
      rfl
theorem join_any (w0 : Base) (l : List (List UInt8)) (tk : Tok) (sep : List UInt8) (hne : l ≠ []) (hl : l.length ≤ 1000) (hs : (Lib.join l sep).length ≤ 140737488355328) : CallP Tryd.prog w0 38 [.slc 1 (strs l) tk, .str sep] (.str (Lib.join l sep)) := .told fun G w vs hb hr => by
  cases hr with
  | cons h t =>
    cases t with
    | cons h2 t =>
      cases t
      cases h2
      cases h with
      | @slc _ _ _ A0 n cap vs hn hc hm hsz hr hli ht =>
      obtain rfl := strs_vals l _ hr
      have hn : l.length = n := by simpa [strs] using hn
      obtain ⟨bk, o, rfl, h1, h2⟩ := hli 0 (bstr (l.head hne)) (by cases l with | nil => exact absurd rfl hne | cons x l => rfl)
      have hxs : (l.map fun p => (⟨p.toArray⟩ : ByteArray)).map (·.data.toList) = l := by
        rw [List.map_map]
        conv => rhs; rw [← List.map_id l]
        exact List.map_congr_left fun x _ => rfl
      have k := Tryd.strings_Join bk o cap (l.map fun p => ⟨p.toArray⟩) ⟨sep.toArray⟩ w (fun j x hx => by
        obtain ⟨b', o', e, h3, h4⟩ := hli j (.string x) (by
          rw [List.getElem?_map] at hx ⊢
          cases hp : l[j]? with
          | none => rw [hp] at hx; cases hx
          | some p => rw [hp] at hx; cases hx; rfl)
        cases e
        exact h4) (lt_of_cell h2) (by simp; omega) (by simpa using (by omega : l.length ≤ cap)) (by rw [hxs]; exact hs)
      rw [hxs, List.length_map, hn] at k
      exact ⟨_, fun w' => .str _, k⟩
def printS (o : OpV) (p : List UInt8 × List Nat) : List UInt8 := Lib.join (p.1 :: p.2.map (toldF o)) [32]
def formAt (k : Int) : List UInt8 × List Nat := (formsL[(k - 1).toNat]?).getD ([], [])
def printT (o : OpV) : List UInt8 × Bool := if o.kind < 1 ∨ 20 < o.kind then ([], false) else if parseT (printS o (formAt o.kind)) = (o, 0) then (printS o (formAt o.kind), true) else ([], false)
structure OpS (o : OpV) : Prop where
  s : o.name.length ≤ 1000 ∧ o.topic.length ≤ 1000 ∧ o.want.length ≤ 1000 ∧ o.body.length ≤ 1000 ∧ o.attr.length ≤ 1000 ∧ o.data.length ≤ 1000
  i : (-9223372036854775808 ≤ o.sub ∧ o.sub ≤ 9223372036854775807) ∧ (-9223372036854775808 ≤ o.n ∧ o.n ≤ 9223372036854775807) ∧ (-9223372036854775808 ≤ o.seq ∧ o.seq ≤ 9223372036854775807)
  k : -9223372036854775808 ≤ o.kind ∧ o.kind ≤ 9223372036854775807
theorem told_short {o : OpV} (h : OpS o) (f : Nat) : (toldF o f).length ≤ 4000 := by
  obtain ⟨⟨s1, s2, s3, s4, s5, s6⟩, i, k⟩ := h
  obtain ⟨⟨i1, j1⟩, ⟨i2, j2⟩, i3, j3⟩ := i
  have q1 := quoteT_len o.name
  have q2 := quoteT_len o.topic
  have q3 := quoteT_len o.want
  have q4 := quoteT_len o.body
  have q5 := quoteT_len o.attr
  have q6 := quoteT_len o.data
  have n1 := itoa_len20 ⟨i1, j1⟩
  have n2 := itoa_len20 ⟨i2, j2⟩
  have n3 := itoa_len20 ⟨i3, j3⟩
  unfold toldF
  split <;> omega
theorem join_short (x : List UInt8) : ∀ (l : List (List UInt8)), (∀ y ∈ l, y.length ≤ 4000) → (Lib.join (x :: l) [32]).length ≤ x.length + 4001 * l.length := by
  intro l h
  rw [Lib.join_cons]
  have : (Lib.joinTail [32] l).length ≤ 4001 * l.length := by
    unfold Lib.joinTail
    induction l with
    | nil => simp
    | cons y l ih =>
      have h1 := h y (by simp)
      have h2 := ih fun z hz => h z (List.mem_cons_of_mem _ hz)
      simp only [List.map_cons, List.flatten_cons, List.length_append, List.length_cons, List.length_nil] at h2 ⊢
      omega
  rw [List.length_append]
  omega
theorem forms_name : ∀ p ∈ formsL, p.1.length ≤ 20 := by decide
theorem formAt_mem {k : Int} (h : ¬ (k < 1 ∨ 20 < k)) : formsL[(k - 1).toNat]? = some (formAt k) ∧ formAt k ∈ formsL := by
  have hl : (k - 1).toNat < formsL.length := by show _ < 20; omega
  have : formsL[(k - 1).toNat]? = some formsL[(k - 1).toNat] := List.getElem?_eq_getElem hl
  rw [formAt, this]
  exact ⟨rfl, List.getElem_mem hl⟩
theorem printS_len {o : OpV} (h : OpS o) {k : Int} (hk : ¬ (k < 1 ∨ 20 < k)) : (printS o (formAt k)).length ≤ 30000 := by
  have hm := (formAt_mem hk).2
  have h1 := forms_name _ hm
  have h2 := (forms_fld _ hm).1
  have := join_short (formAt k).1 ((formAt k).2.map (toldF o)) (fun y hy => by
    obtain ⟨f, _, rfl⟩ := List.mem_map.1 hy
    exact told_short h f)
  rw [List.length_map] at this
  rw [printS]
  omega
theorem print_any (w0 : Base) (hL : Laid w0) (o : OpV) (ho : OpS o) : CallP Tryd.prog w0 20 [eOp o] (.tup [.str (printT o).1, .bool (printT o).2]) := fun σ => by
  have hfo := forms_any w0
  have hf20 : (formsL.map fV).length = 20 := rfl
  refine CallW.h (B := []) Ty.tok Ty.mixed Tryd.func20 rfl Tryd.ntmps20 rfl (by simp) (by decide +kernel) (.nil σ) ?_
  rw [printT]
  by_cases hk : o.kind < 1 ∨ 20 < o.kind
  · rw [if_pos hk]
    generalize formsL.map fV = fl at *
    by_cases h1 : o.kind < 1
    · have d1 : decide (o.kind < 1) = true := decide_eq_true h1
      (try refine Xc_h ?_); (try (conv => whnf)); repeat (first | refine Hid.seq ?_ | (refine Hid.reg ?_; (conv => whnf)) | refine Hid.regD ?_ | refine Hid.cond rfl ?_ | refine Hid.block ?_ | refine Hid.loop ?_ | (refine Hid.exit ?_; (conv => whnf)) | (refine Hid.ret ?_; (conv => whnf)) | (refine Hid.skip ?_; (conv => whnf)) | (refine Hid.label ?_; (conv => whnf)) | refine Hid.range ?_)
      repeat' (((first | refine SIf.y Ty.mixed (by first | exact rfl | assumption | fail) ?_ | refine SIf.n Ty.mixed (by first | exact rfl | assumption | fail) ?_ | refine SCond.y (by first | exact rfl | assumption | fail) ?_ | refine SCond.n (by first | exact rfl | assumption | fail) ?_ | refine SPick.y (by first | exact rfl | assumption | fail) ?_ | refine SPick.n (by first | exact rfl | assumption | fail) ?_ | refine SPick.b ?_ | refine SPick.i ?_ | fail | refine SLoad.on 0 rfl ?_ | refine SLoad.on 1 rfl ?_ | refine SLoad.on 2 rfl ?_ | refine SLoad.on 3 rfl ?_ | refine SLoad.on 4 rfl ?_ | refine SLoad.on 5 rfl ?_ | refine SStore.on 0 rfl ?_ | refine SStore.on 1 rfl ?_ | refine SStore.on 2 rfl ?_ | refine SStore.on 3 rfl ?_ | refine SStore.on 4 rfl ?_ | refine SStore.on 5 rfl ?_ | refine SBox.f ?_ | refine SCall.p (by exact hfo) ?_ | fail | refine SApp.c rfl rfl (by first | assumption | exact Moves.more (by assumption) (by assumption) | fail) (by first | (simp only [length_aBytes, List.length_append, List.length_cons, List.length_nil, List.length_map, List.length_range]; omega) | omega | fail) fun tk1 σ1 hm => ?_ | refine SReg.t 0 [] (by decide +kernel) ?_ | refine And.intro (by first | omega | (simp only [List.length_cons, List.length_append, List.length_nil, List.length_map, length_aBytes, List.length_replicate, List.length_range]; omega) | fail) ?_ | refine ⟨_, ⟨by first | omega | (simp only [List.length_cons, List.length_append, List.length_nil, List.length_map, length_aBytes, List.length_replicate, List.length_range]; omega) | fail, by first | assumption | exact get_map (by assumption) | exact get_bytes (by assumption) | fail⟩, ?_⟩ | refine ⟨_, toBytes_aBytes _, ?_⟩ | refine ⟨_, by repeat (first | exact toB_nil | apply toB_cons | apply toB_consC _ (by first | omega | (simp only [List.length_cons, List.length_append, List.length_nil, List.length_map, length_aBytes, List.length_replicate, List.length_range]; omega) | fail)), ?_⟩ | refine ⟨_, IntWalk.i64_in _ (by first | omega | (simp only [List.length_cons, List.length_append, List.length_nil, List.length_map, length_aBytes, List.length_replicate, List.length_range]; omega) | fail), ?_⟩ | refine ⟨_, wrap_u8 _, ?_⟩ | refine ⟨_, rfl, ?_⟩ | refine ⟨true, fun b1 hb1 => ?_⟩ | intro b1 hb1 | fail); (try refine Xc_h ?_); (try (conv => whnf)); repeat (first | refine Hid.seq ?_ | (refine Hid.reg ?_; (conv => whnf)) | refine Hid.regD ?_ | refine Hid.cond rfl ?_ | refine Hid.block ?_ | refine Hid.loop ?_ | (refine Hid.exit ?_; (conv => whnf)) | (refine Hid.ret ?_; (conv => whnf)) | (refine Hid.skip ?_; (conv => whnf)) | (refine Hid.label ?_; (conv => whnf)) | refine Hid.range ?_)))
      exact .p (.refl _) rfl
    · have d1 : decide (o.kind < 1) = false := decide_eq_false h1
      have d2 : decide ((fl.length : Int) < o.kind) = true := decide_eq_true (by rw [hf20]; omega)
      (try refine Xc_h ?_); (try (conv => whnf)); repeat (first | refine Hid.seq ?_ | (refine Hid.reg ?_; (conv => whnf)) | refine Hid.regD ?_ | refine Hid.cond rfl ?_ | refine Hid.block ?_ | refine Hid.loop ?_ | (refine Hid.exit ?_; (conv => whnf)) | (refine Hid.ret ?_; (conv => whnf)) | (refine Hid.skip ?_; (conv => whnf)) | (refine Hid.label ?_; (conv => whnf)) | refine Hid.range ?_)
      repeat' (((first | refine SIf.y Ty.mixed (by first | exact rfl | assumption | fail) ?_ | refine SIf.n Ty.mixed (by first | exact rfl | assumption | fail) ?_ | refine SCond.y (by first | exact rfl | assumption | fail) ?_ | refine SCond.n (by first | exact rfl | assumption | fail) ?_ | refine SPick.y (by first | exact rfl | assumption | fail) ?_ | refine SPick.n (by first | exact rfl | assumption | fail) ?_ | refine SPick.b ?_ | refine SPick.i ?_ | fail | refine SLoad.on 0 rfl ?_ | refine SLoad.on 1 rfl ?_ | refine SLoad.on 2 rfl ?_ | refine SLoad.on 3 rfl ?_ | refine SLoad.on 4 rfl ?_ | refine SLoad.on 5 rfl ?_ | refine SStore.on 0 rfl ?_ | refine SStore.on 1 rfl ?_ | refine SStore.on 2 rfl ?_ | refine SStore.on 3 rfl ?_ | refine SStore.on 4 rfl ?_ | refine SStore.on 5 rfl ?_ | refine SBox.f ?_ | refine SCall.p (by exact hfo) ?_ | fail | refine SApp.c rfl rfl (by first | assumption | exact Moves.more (by assumption) (by assumption) | fail) (by first | (simp only [length_aBytes, List.length_append, List.length_cons, List.length_nil, List.length_map, List.length_range]; omega) | omega | fail) fun tk1 σ1 hm => ?_ | refine SReg.t 0 [] (by decide +kernel) ?_ | refine And.intro (by first | omega | (simp only [List.length_cons, List.length_append, List.length_nil, List.length_map, length_aBytes, List.length_replicate, List.length_range]; omega) | fail) ?_ | refine ⟨_, ⟨by first | omega | (simp only [List.length_cons, List.length_append, List.length_nil, List.length_map, length_aBytes, List.length_replicate, List.length_range]; omega) | fail, by first | assumption | exact get_map (by assumption) | exact get_bytes (by assumption) | fail⟩, ?_⟩ | refine ⟨_, toBytes_aBytes _, ?_⟩ | refine ⟨_, by repeat (first | exact toB_nil | apply toB_cons | apply toB_consC _ (by first | omega | (simp only [List.length_cons, List.length_append, List.length_nil, List.length_map, length_aBytes, List.length_replicate, List.length_range]; omega) | fail)), ?_⟩ | refine ⟨_, IntWalk.i64_in _ (by first | omega | (simp only [List.length_cons, List.length_append, List.length_nil, List.length_map, length_aBytes, List.length_replicate, List.length_range]; omega) | fail), ?_⟩ | refine ⟨_, wrap_u8 _, ?_⟩ | refine ⟨_, rfl, ?_⟩ | refine ⟨true, fun b1 hb1 => ?_⟩ | intro b1 hb1 | fail); (try refine Xc_h ?_); (try (conv => whnf)); repeat (first | refine Hid.seq ?_ | (refine Hid.reg ?_; (conv => whnf)) | refine Hid.regD ?_ | refine Hid.cond rfl ?_ | refine Hid.block ?_ | refine Hid.loop ?_ | (refine Hid.exit ?_; (conv => whnf)) | (refine Hid.ret ?_; (conv => whnf)) | (refine Hid.skip ?_; (conv => whnf)) | (refine Hid.label ?_; (conv => whnf)) | refine Hid.range ?_)))
      exact .p (.refl _) rfl
  rw [if_neg hk]
  obtain ⟨hat, hmem⟩ := formAt_mem hk
  have hlen := printS_len ho hk
  have hpa := parse_any w0 hL (printS o (formAt o.kind)) (by omega)
  have ga : (formsL.map fV)[(o.kind - 1).toNat]? = some (fV (formAt o.kind)) := by rw [List.getElem?_map, hat]; rfl
  obtain ⟨hf5, hf9⟩ := forms_fld _ hmem
  have hnm := forms_name _ hmem
  rw [printS] at hlen hpa ⊢
  generalize formAt o.kind = p at *
  obtain ⟨nm, fs⟩ := p
  dsimp only at hlen hpa hf5 hf9 hnm ⊢
  generalize formsL.map fV = fl at *
  have d1 : decide (o.kind < 1) = false := decide_eq_false (by omega)
  have d2 : decide ((fl.length : Int) < o.kind) = false := decide_eq_false (by rw [hf20]; omega)
  have hsame := fun a => same_any w0 a o
  generalize hpr : parseT (Lib.join (nm :: fs.map (toldF o)) [32]) = pr at hpa ⊢
  obtain ⟨q, e⟩ := pr
  clear hpr hat hmem
  dsimp only at hpa
  cases fs with
  | nil =>
    have hj := join_any w0 [nm] .full [32] (by simp) (by simp) (by rw [Lib.join_one]; omega)
    (try refine Xc_h ?_); (try (conv => whnf)); repeat (first | refine Hid.seq ?_ | (refine Hid.reg ?_; (conv => whnf)) | refine Hid.regD ?_ | refine Hid.cond rfl ?_ | refine Hid.block ?_ | refine Hid.loop ?_ | (refine Hid.exit ?_; (conv => whnf)) | (refine Hid.ret ?_; (conv => whnf)) | (refine Hid.skip ?_; (conv => whnf)) | (refine Hid.label ?_; (conv => whnf)) | refine Hid.range ?_)
    repeat' (((first | refine SIf.y Ty.mixed (by first | exact rfl | assumption | fail) ?_ | refine SIf.n Ty.mixed (by first | exact rfl | assumption | fail) ?_ | refine SCond.y (by first | exact rfl | assumption | fail) ?_ | refine SCond.n (by first | exact rfl | assumption | fail) ?_ | refine SPick.y (by first | exact rfl | assumption | fail) ?_ | refine SPick.n (by first | exact rfl | assumption | fail) ?_ | refine SPick.b ?_ | refine SPick.i ?_ | fail | refine SLoad.on 0 rfl ?_ | refine SLoad.on 1 rfl ?_ | refine SLoad.on 2 rfl ?_ | refine SLoad.on 3 rfl ?_ | refine SLoad.on 4 rfl ?_ | refine SLoad.on 5 rfl ?_ | refine SStore.on 0 rfl ?_ | refine SStore.on 1 rfl ?_ | refine SStore.on 2 rfl ?_ | refine SStore.on 3 rfl ?_ | refine SStore.on 4 rfl ?_ | refine SStore.on 5 rfl ?_ | refine SBox.f ?_ | refine SCall.p (by first | exact hfo | exact hj | exact hpa | exact hsame _) ?_ | fail | refine SApp.c rfl rfl (by first | assumption | exact Moves.more (by assumption) (by assumption) | fail) (by first | (simp only [length_aBytes, List.length_append, List.length_cons, List.length_nil, List.length_map, List.length_range]; omega) | omega | fail) fun tk1 σ1 hm => ?_ | refine SReg.t 0 [] (by decide +kernel) ?_ | refine And.intro (by first | omega | (simp only [List.length_cons, List.length_append, List.length_nil, List.length_map, length_aBytes, List.length_replicate, List.length_range]; omega) | fail) ?_ | refine ⟨_, ⟨by first | omega | (simp only [List.length_cons, List.length_append, List.length_nil, List.length_map, length_aBytes, List.length_replicate, List.length_range]; omega) | fail, by first | exact ⟨by omega, ga⟩ | exact ga | exact rfl⟩, ?_⟩ | refine ⟨_, toBytes_aBytes _, ?_⟩ | refine ⟨_, by repeat (first | exact toB_nil | apply toB_cons | apply toB_consC _ (by first | omega | (simp only [List.length_cons, List.length_append, List.length_nil, List.length_map, length_aBytes, List.length_replicate, List.length_range]; omega) | fail)), ?_⟩ | refine ⟨_, IntWalk.i64_in _ (by first | omega | (simp only [List.length_cons, List.length_append, List.length_nil, List.length_map, length_aBytes, List.length_replicate, List.length_range]; omega) | fail), ?_⟩ | refine ⟨_, wrap_u8 _, ?_⟩ | refine ⟨_, rfl, ?_⟩ | intro b5 hb5 | fail); (try refine Xc_h ?_); (try (conv => whnf)); repeat (first | refine Hid.seq ?_ | (refine Hid.reg ?_; (conv => whnf)) | refine Hid.regD ?_ | refine Hid.cond rfl ?_ | refine Hid.block ?_ | refine Hid.loop ?_ | (refine Hid.exit ?_; (conv => whnf)) | (refine Hid.ret ?_; (conv => whnf)) | (refine Hid.skip ?_; (conv => whnf)) | (refine Hid.label ?_; (conv => whnf)) | refine Hid.range ?_)))
    have hle5 : St.Le σ ((σ.setBox b5 [.str [], .nils]).setBox b5 [.str nm, .nils]) := le_new2 (.refl _) hb5
    refine SLoop.by Ty.mixed (fun _ : Unit => 0) (fun _ => [(1, .vp (eOp o)), (6, .slc 1 (strs [nm]) .full), (34, .int .i64 0), (35, .int .i64 0)]) (fun _ => []) (fun _ s => St.Le σ s) () ⟨by repeat (first | exact trivial | refine ⟨by first | trivial | exact Weak.refl _ | exact Weak.tok _ _ _ | exact Weak.of_eq (congrArg (AV.int _) (by omega)) | exact Weak.of_eq (congrArg AV.bool (by fail)) | exact Weak.nils _ _ (.inr rfl), ?_⟩), .none _, hle5⟩ ?_
    rintro _ s hls
    (try refine Xc_h ?_); (try (conv => whnf)); repeat (first | refine Hid.seq ?_ | (refine Hid.reg ?_; (conv => whnf)) | refine Hid.regD ?_ | refine Hid.cond rfl ?_ | refine Hid.block ?_ | refine Hid.loop ?_ | (refine Hid.exit ?_; (conv => whnf)) | (refine Hid.ret ?_; (conv => whnf)) | (refine Hid.skip ?_; (conv => whnf)) | (refine Hid.label ?_; (conv => whnf)) | refine Hid.range ?_)
    by_cases he : e = 0
    · have d3 : (!decide ((e : Int) = 0)) = false := by rw [decide_eq_true (by omega)]; rfl
      by_cases hq : q = o
      · have d4 : (!decide (q = o)) = false := by rw [decide_eq_true hq]; rfl
        repeat' (((first | refine SIf.y Ty.mixed (by first | exact rfl | assumption | fail) ?_ | refine SIf.n Ty.mixed (by first | exact rfl | assumption | fail) ?_ | refine SCond.y (by first | exact rfl | assumption | fail) ?_ | refine SCond.n (by first | exact rfl | assumption | fail) ?_ | refine SPick.y (by first | exact rfl | assumption | fail) ?_ | refine SPick.n (by first | exact rfl | assumption | fail) ?_ | refine SPick.b ?_ | refine SPick.i ?_ | fail | refine SLoad.on 0 rfl ?_ | refine SLoad.on 1 rfl ?_ | refine SLoad.on 2 rfl ?_ | refine SLoad.on 3 rfl ?_ | refine SLoad.on 4 rfl ?_ | refine SLoad.on 5 rfl ?_ | refine SStore.on 0 rfl ?_ | refine SStore.on 1 rfl ?_ | refine SStore.on 2 rfl ?_ | refine SStore.on 3 rfl ?_ | refine SStore.on 4 rfl ?_ | refine SStore.on 5 rfl ?_ | refine SBox.f ?_ | refine SCall.p (by first | exact hfo | exact hj | exact hpa | exact hsame _) ?_ | fail | refine SApp.c rfl rfl (by first | assumption | exact Moves.more (by assumption) (by assumption) | fail) (by first | (simp only [length_aBytes, List.length_append, List.length_cons, List.length_nil, List.length_map, List.length_range]; omega) | omega | fail) fun tk1 σ1 hm => ?_ | refine SReg.t 0 [] (by decide +kernel) ?_ | refine And.intro (by first | omega | (simp only [List.length_cons, List.length_append, List.length_nil, List.length_map, length_aBytes, List.length_replicate, List.length_range]; omega) | fail) ?_ | refine ⟨_, ⟨by first | omega | (simp only [List.length_cons, List.length_append, List.length_nil, List.length_map, length_aBytes, List.length_replicate, List.length_range]; omega) | fail, by first | exact ⟨by omega, ga⟩ | exact ga | exact rfl⟩, ?_⟩ | refine ⟨_, toBytes_aBytes _, ?_⟩ | refine ⟨_, by repeat (first | exact toB_nil | apply toB_cons | apply toB_consC _ (by first | omega | (simp only [List.length_cons, List.length_append, List.length_nil, List.length_map, length_aBytes, List.length_replicate, List.length_range]; omega) | fail)), ?_⟩ | refine ⟨_, IntWalk.i64_in _ (by first | omega | (simp only [List.length_cons, List.length_append, List.length_nil, List.length_map, length_aBytes, List.length_replicate, List.length_range]; omega) | fail), ?_⟩ | refine ⟨_, wrap_u8 _, ?_⟩ | refine ⟨_, rfl, ?_⟩ | intro b10 hb10 | fail); (try refine Xc_h ?_); (try (conv => whnf)); repeat (first | refine Hid.seq ?_ | (refine Hid.reg ?_; (conv => whnf)) | refine Hid.regD ?_ | refine Hid.cond rfl ?_ | refine Hid.block ?_ | refine Hid.loop ?_ | (refine Hid.exit ?_; (conv => whnf)) | (refine Hid.ret ?_; (conv => whnf)) | (refine Hid.skip ?_; (conv => whnf)) | (refine Hid.label ?_; (conv => whnf)) | refine Hid.range ?_)))
        rw [if_pos (by rw [hq, he])]
        exact .p (le_new2 hls hb10) rfl
      · have d4 : (!decide (q = o)) = true := by rw [decide_eq_false hq]; rfl
        repeat' (((first | refine SIf.y Ty.mixed (by first | exact rfl | assumption | fail) ?_ | refine SIf.n Ty.mixed (by first | exact rfl | assumption | fail) ?_ | refine SCond.y (by first | exact rfl | assumption | fail) ?_ | refine SCond.n (by first | exact rfl | assumption | fail) ?_ | refine SPick.y (by first | exact rfl | assumption | fail) ?_ | refine SPick.n (by first | exact rfl | assumption | fail) ?_ | refine SPick.b ?_ | refine SPick.i ?_ | fail | refine SLoad.on 0 rfl ?_ | refine SLoad.on 1 rfl ?_ | refine SLoad.on 2 rfl ?_ | refine SLoad.on 3 rfl ?_ | refine SLoad.on 4 rfl ?_ | refine SLoad.on 5 rfl ?_ | refine SStore.on 0 rfl ?_ | refine SStore.on 1 rfl ?_ | refine SStore.on 2 rfl ?_ | refine SStore.on 3 rfl ?_ | refine SStore.on 4 rfl ?_ | refine SStore.on 5 rfl ?_ | refine SBox.f ?_ | refine SCall.p (by first | exact hfo | exact hj | exact hpa | exact hsame _) ?_ | fail | refine SApp.c rfl rfl (by first | assumption | exact Moves.more (by assumption) (by assumption) | fail) (by first | (simp only [length_aBytes, List.length_append, List.length_cons, List.length_nil, List.length_map, List.length_range]; omega) | omega | fail) fun tk1 σ1 hm => ?_ | refine SReg.t 0 [] (by decide +kernel) ?_ | refine And.intro (by first | omega | (simp only [List.length_cons, List.length_append, List.length_nil, List.length_map, length_aBytes, List.length_replicate, List.length_range]; omega) | fail) ?_ | refine ⟨_, ⟨by first | omega | (simp only [List.length_cons, List.length_append, List.length_nil, List.length_map, length_aBytes, List.length_replicate, List.length_range]; omega) | fail, by first | exact ⟨by omega, ga⟩ | exact ga | exact rfl⟩, ?_⟩ | refine ⟨_, toBytes_aBytes _, ?_⟩ | refine ⟨_, by repeat (first | exact toB_nil | apply toB_cons | apply toB_consC _ (by first | omega | (simp only [List.length_cons, List.length_append, List.length_nil, List.length_map, length_aBytes, List.length_replicate, List.length_range]; omega) | fail)), ?_⟩ | refine ⟨_, IntWalk.i64_in _ (by first | omega | (simp only [List.length_cons, List.length_append, List.length_nil, List.length_map, length_aBytes, List.length_replicate, List.length_range]; omega) | fail), ?_⟩ | refine ⟨_, wrap_u8 _, ?_⟩ | refine ⟨_, rfl, ?_⟩ | intro b10 hb10 | fail); (try refine Xc_h ?_); (try (conv => whnf)); repeat (first | refine Hid.seq ?_ | (refine Hid.reg ?_; (conv => whnf)) | refine Hid.regD ?_ | refine Hid.cond rfl ?_ | refine Hid.block ?_ | refine Hid.loop ?_ | (refine Hid.exit ?_; (conv => whnf)) | (refine Hid.ret ?_; (conv => whnf)) | (refine Hid.skip ?_; (conv => whnf)) | (refine Hid.label ?_; (conv => whnf)) | refine Hid.range ?_)))
        rw [if_neg (by intro e'; cases e'; exact hq rfl)]
        exact .p (le_new2 hls hb10) rfl
    · have d3 : (!decide ((e : Int) = 0)) = true := by rw [decide_eq_false (by omega)]; rfl
      repeat' (((first | refine SIf.y Ty.mixed (by first | exact rfl | assumption | fail) ?_ | refine SIf.n Ty.mixed (by first | exact rfl | assumption | fail) ?_ | refine SCond.y (by first | exact rfl | assumption | fail) ?_ | refine SCond.n (by first | exact rfl | assumption | fail) ?_ | refine SPick.y (by first | exact rfl | assumption | fail) ?_ | refine SPick.n (by first | exact rfl | assumption | fail) ?_ | refine SPick.b ?_ | refine SPick.i ?_ | fail | refine SLoad.on 0 rfl ?_ | refine SLoad.on 1 rfl ?_ | refine SLoad.on 2 rfl ?_ | refine SLoad.on 3 rfl ?_ | refine SLoad.on 4 rfl ?_ | refine SLoad.on 5 rfl ?_ | refine SStore.on 0 rfl ?_ | refine SStore.on 1 rfl ?_ | refine SStore.on 2 rfl ?_ | refine SStore.on 3 rfl ?_ | refine SStore.on 4 rfl ?_ | refine SStore.on 5 rfl ?_ | refine SBox.f ?_ | refine SCall.p (by first | exact hfo | exact hj | exact hpa | exact hsame _) ?_ | fail | refine SApp.c rfl rfl (by first | assumption | exact Moves.more (by assumption) (by assumption) | fail) (by first | (simp only [length_aBytes, List.length_append, List.length_cons, List.length_nil, List.length_map, List.length_range]; omega) | omega | fail) fun tk1 σ1 hm => ?_ | refine SReg.t 0 [] (by decide +kernel) ?_ | refine And.intro (by first | omega | (simp only [List.length_cons, List.length_append, List.length_nil, List.length_map, length_aBytes, List.length_replicate, List.length_range]; omega) | fail) ?_ | refine ⟨_, ⟨by first | omega | (simp only [List.length_cons, List.length_append, List.length_nil, List.length_map, length_aBytes, List.length_replicate, List.length_range]; omega) | fail, by first | exact ⟨by omega, ga⟩ | exact ga | exact rfl⟩, ?_⟩ | refine ⟨_, toBytes_aBytes _, ?_⟩ | refine ⟨_, by repeat (first | exact toB_nil | apply toB_cons | apply toB_consC _ (by first | omega | (simp only [List.length_cons, List.length_append, List.length_nil, List.length_map, length_aBytes, List.length_replicate, List.length_range]; omega) | fail)), ?_⟩ | refine ⟨_, IntWalk.i64_in _ (by first | omega | (simp only [List.length_cons, List.length_append, List.length_nil, List.length_map, length_aBytes, List.length_replicate, List.length_range]; omega) | fail), ?_⟩ | refine ⟨_, wrap_u8 _, ?_⟩ | refine ⟨_, rfl, ?_⟩ | intro b10 hb10 | fail); (try refine Xc_h ?_); (try (conv => whnf)); repeat (first | refine Hid.seq ?_ | (refine Hid.reg ?_; (conv => whnf)) | refine Hid.regD ?_ | refine Hid.cond rfl ?_ | refine Hid.block ?_ | refine Hid.loop ?_ | (refine Hid.exit ?_; (conv => whnf)) | (refine Hid.ret ?_; (conv => whnf)) | (refine Hid.skip ?_; (conv => whnf)) | (refine Hid.label ?_; (conv => whnf)) | refine Hid.range ?_)))
      rw [if_neg (by intro e'; cases e'; exact he rfl)]
      exact .p (le_new2 hls hb10) rfl
  | cons f fs0 =>
    obtain ⟨fs, hfs⟩ : ∃ fs, fs = f :: fs0 := ⟨_, rfl⟩
    have hfv : fV (nm, f :: fs0) = .agg [.str nm, .slc 1 (fs.map fun f : Nat => AV.int .i64 ((f : Nat) : Int)) .full] := by rw [hfs]; rfl
    rw [hfv] at ga
    rw [← hfs] at hlen hpa hf5 hf9 ⊢
    have hfsl : (fs.map fun f : Nat => AV.int .i64 ((f : Nat) : Int)).length = fs.length := by simp
    clear hfs hfv
    (try refine Xc_h ?_); (try (conv => whnf)); repeat (first | refine Hid.seq ?_ | (refine Hid.reg ?_; (conv => whnf)) | refine Hid.regD ?_ | refine Hid.cond rfl ?_ | refine Hid.block ?_ | refine Hid.loop ?_ | (refine Hid.exit ?_; (conv => whnf)) | (refine Hid.ret ?_; (conv => whnf)) | (refine Hid.skip ?_; (conv => whnf)) | (refine Hid.label ?_; (conv => whnf)) | refine Hid.range ?_)
    repeat' (((first | refine SIf.y Ty.mixed (by first | exact rfl | assumption | fail) ?_ | refine SIf.n Ty.mixed (by first | exact rfl | assumption | fail) ?_ | refine SCond.y (by first | exact rfl | assumption | fail) ?_ | refine SCond.n (by first | exact rfl | assumption | fail) ?_ | refine SPick.y (by first | exact rfl | assumption | fail) ?_ | refine SPick.n (by first | exact rfl | assumption | fail) ?_ | refine SPick.b ?_ | refine SPick.i ?_ | fail | refine SLoad.on 0 rfl ?_ | refine SLoad.on 1 rfl ?_ | refine SLoad.on 2 rfl ?_ | refine SLoad.on 3 rfl ?_ | refine SLoad.on 4 rfl ?_ | refine SLoad.on 5 rfl ?_ | refine SStore.on 0 rfl ?_ | refine SStore.on 1 rfl ?_ | refine SStore.on 2 rfl ?_ | refine SStore.on 3 rfl ?_ | refine SStore.on 4 rfl ?_ | refine SStore.on 5 rfl ?_ | refine SBox.f ?_ | refine SCall.p (by first | exact hfo | exact hpa | exact hsame _) ?_ | fail | refine SApp.c rfl rfl (by first | assumption | exact Moves.more (by assumption) (by assumption) | fail) (by first | (simp only [length_aBytes, List.length_append, List.length_cons, List.length_nil, List.length_map, List.length_range]; omega) | omega | fail) fun tk1 σ1 hm => ?_ | refine SReg.t 0 [] (by decide +kernel) ?_ | refine And.intro (by first | omega | (simp only [List.length_cons, List.length_append, List.length_nil, List.length_map, length_aBytes, List.length_replicate, List.length_range]; omega) | fail) ?_ | refine ⟨_, ⟨by first | omega | (simp only [List.length_cons, List.length_append, List.length_nil, List.length_map, length_aBytes, List.length_replicate, List.length_range]; omega) | fail, by first | exact ⟨by omega, ga⟩ | exact ga | exact rfl⟩, ?_⟩ | refine ⟨_, toBytes_aBytes _, ?_⟩ | refine ⟨_, by repeat (first | exact toB_nil | apply toB_cons | apply toB_consC _ (by first | omega | (simp only [List.length_cons, List.length_append, List.length_nil, List.length_map, length_aBytes, List.length_replicate, List.length_range]; omega) | fail)), ?_⟩ | refine ⟨_, IntWalk.i64_in _ (by first | omega | (simp only [List.length_cons, List.length_append, List.length_nil, List.length_map, length_aBytes, List.length_replicate, List.length_range]; omega) | fail), ?_⟩ | refine ⟨_, wrap_u8 _, ?_⟩ | refine ⟨_, rfl, ?_⟩ | intro b5 hb5 | fail); (try refine Xc_h ?_); (try (conv => whnf)); repeat (first | refine Hid.seq ?_ | (refine Hid.reg ?_; (conv => whnf)) | refine Hid.regD ?_ | refine Hid.cond rfl ?_ | refine Hid.block ?_ | refine Hid.loop ?_ | (refine Hid.exit ?_; (conv => whnf)) | (refine Hid.ret ?_; (conv => whnf)) | (refine Hid.skip ?_; (conv => whnf)) | (refine Hid.label ?_; (conv => whnf)) | refine Hid.range ?_)))
    have hle5 : St.Le σ ((σ.setBox b5 [.str [], .nils]).setBox b5 [.str nm, .slc 1 (fs.map fun f : Nat => AV.int .i64 ((f : Nat) : Int)) .full]) := le_new2 (.refl _) hb5
    refine SLoop.by Ty.mixed (fun ((j, tk) : Nat × Tok) => fs.length - j) (fun (j, tk) => [(1, .vp (eOp o)), (6, .slc 1 (strs (nm :: (fs.take j).map (toldF o))) tk), (33, .slc 1 (fs.map fun f : Nat => AV.int .i64 ((f : Nat) : Int)) .full), (34, .int .i64 (fs.map fun f : Nat => AV.int .i64 ((f : Nat) : Int)).length), (35, .int .i64 j)]) (fun _ => [])
      (fun (j, tk) s => j ≤ fs.length ∧ Moves σ .full s tk) (0, .full) ⟨by repeat (first | exact trivial | refine ⟨by first | trivial | exact Weak.refl _ | exact Weak.tok _ _ _ | exact Weak.of_eq (congrArg (AV.int _) (by omega)) | exact Weak.of_eq (congrArg AV.bool (by fail)) | exact Weak.nils _ _ (.inr rfl), ?_⟩), .none _, Nat.zero_le _, .new2 (.full _) hb5⟩ ?_
    rintro ⟨j, tk⟩ s ⟨hj, hm⟩
    dsimp only at hj hm ⊢
    by_cases hjl : j < fs.length
    · have gf : (fs.map fun f : Nat => AV.int .i64 ((f : Nat) : Int))[j]? = some (.int .i64 fs[j]) := by simp [hjl]
      have htk : fs.take (j + 1) = fs.take j ++ [fs[j]] := by rw [List.take_add_one]; simp [hjl]
      have hf := hf9 _ (List.getElem_mem hjl)
      have hp := place_vp w0 o fs[j] hf
      have ht := told_any w0 hL o fs[j] hf (by have := ho.s; omega) ho.i
      generalize fs[j] = f9 at *
      have hl1 : (strs (nm :: (fs.take j).map (toldF o))).length ≤ 6 := by rw [strs_len8]; simp; omega
      have hsn : strs (nm :: (fs.take (j + 1)).map (toldF o)) = strs (nm :: (fs.take j).map (toldF o)) ++ [.str (toldF o f9)] := by rw [htk]; simp [strs]
      generalize strs (nm :: (fs.take j).map (toldF o)) = row at *
      rcases nine hf with rfl | rfl | rfl | rfl | rfl | rfl | rfl | rfl | rfl
      all_goals
        (try refine Xc_h ?_); (try (conv => whnf)); repeat (first | refine Hid.seq ?_ | (refine Hid.reg ?_; (conv => whnf)) | refine Hid.regD ?_ | refine Hid.cond rfl ?_ | refine Hid.block ?_ | refine Hid.loop ?_ | (refine Hid.exit ?_; (conv => whnf)) | (refine Hid.ret ?_; (conv => whnf)) | (refine Hid.skip ?_; (conv => whnf)) | (refine Hid.label ?_; (conv => whnf)) | refine Hid.range ?_)
        repeat' (((first | refine SIf.y Ty.mixed (by first | exact rfl | assumption | fail) ?_ | refine SIf.n Ty.mixed (by first | exact rfl | assumption | fail) ?_ | refine SCond.y (by first | exact rfl | assumption | fail) ?_ | refine SCond.n (by first | exact rfl | assumption | fail) ?_ | refine SPick.y (by first | exact rfl | assumption | fail) ?_ | refine SPick.n (by first | exact rfl | assumption | fail) ?_ | refine SPick.b ?_ | refine SPick.i ?_ | fail | refine SLoad.on 0 rfl ?_ | refine SLoad.on 1 rfl ?_ | refine SLoad.on 2 rfl ?_ | refine SLoad.on 3 rfl ?_ | refine SLoad.on 4 rfl ?_ | refine SLoad.on 5 rfl ?_ | refine SStore.on 0 rfl ?_ | refine SStore.on 1 rfl ?_ | refine SStore.on 2 rfl ?_ | refine SStore.on 3 rfl ?_ | refine SStore.on 4 rfl ?_ | refine SStore.on 5 rfl ?_ | refine SBox.f ?_ | refine SCall.p (by first | exact hp | exact ht) ?_ | fail | refine SApp.c rfl rfl (by first | assumption | exact Moves.more (by assumption) (by assumption) | fail) (by (simp only [List.length_cons, List.length_nil]; omega)) fun tk1 σ1 hm => ?_ | refine SReg.t 0 [] (by decide +kernel) ?_ | refine And.intro (by first | omega | (simp only [List.length_cons, List.length_append, List.length_nil, List.length_map, length_aBytes, List.length_replicate, List.length_range]; omega) | fail) ?_ | refine ⟨_, ⟨by first | omega | (simp only [List.length_cons, List.length_append, List.length_nil, List.length_map, length_aBytes, List.length_replicate, List.length_range]; omega) | fail, by exact gf⟩, ?_⟩ | refine ⟨_, toBytes_aBytes _, ?_⟩ | refine ⟨_, by repeat (first | exact toB_nil | apply toB_cons | apply toB_consC _ (by first | omega | (simp only [List.length_cons, List.length_append, List.length_nil, List.length_map, length_aBytes, List.length_replicate, List.length_range]; omega) | fail)), ?_⟩ | refine ⟨_, IntWalk.i64_in _ (by first | omega | (simp only [List.length_cons, List.length_append, List.length_nil, List.length_map, length_aBytes, List.length_replicate, List.length_range]; omega) | fail), ?_⟩ | refine ⟨_, wrap_u8 _, ?_⟩ | refine ⟨_, rfl, ?_⟩ | first | intro b1 hb1 | fail | fail); (try refine Xc_h ?_); (try (conv => whnf)); repeat (first | refine Hid.seq ?_ | (refine Hid.reg ?_; (conv => whnf)) | refine Hid.regD ?_ | refine Hid.cond rfl ?_ | refine Hid.block ?_ | refine Hid.loop ?_ | (refine Hid.exit ?_; (conv => whnf)) | (refine Hid.ret ?_; (conv => whnf)) | (refine Hid.skip ?_; (conv => whnf)) | (refine Hid.label ?_; (conv => whnf)) | refine Hid.range ?_)))
        refine SIf.y Ty.mixed (decide_eq_true (by rw [hfsl]; omega)) ?_
        (try refine Xc_h ?_); (try (conv => whnf)); repeat (first | refine Hid.seq ?_ | (refine Hid.reg ?_; (conv => whnf)) | refine Hid.regD ?_ | refine Hid.cond rfl ?_ | refine Hid.block ?_ | refine Hid.loop ?_ | (refine Hid.exit ?_; (conv => whnf)) | (refine Hid.ret ?_; (conv => whnf)) | (refine Hid.skip ?_; (conv => whnf)) | (refine Hid.label ?_; (conv => whnf)) | refine Hid.range ?_)
        repeat' (((first | refine SIf.y Ty.mixed (by first | exact rfl | assumption | fail) ?_ | refine SIf.n Ty.mixed (by first | exact rfl | assumption | fail) ?_ | refine SCond.y (by first | exact rfl | assumption | fail) ?_ | refine SCond.n (by first | exact rfl | assumption | fail) ?_ | refine SPick.y (by first | exact rfl | assumption | fail) ?_ | refine SPick.n (by first | exact rfl | assumption | fail) ?_ | refine SPick.b ?_ | refine SPick.i ?_ | fail | refine SLoad.on 0 rfl ?_ | refine SLoad.on 1 rfl ?_ | refine SLoad.on 2 rfl ?_ | refine SLoad.on 3 rfl ?_ | refine SLoad.on 4 rfl ?_ | refine SLoad.on 5 rfl ?_ | refine SStore.on 0 rfl ?_ | refine SStore.on 1 rfl ?_ | refine SStore.on 2 rfl ?_ | refine SStore.on 3 rfl ?_ | refine SStore.on 4 rfl ?_ | refine SStore.on 5 rfl ?_ | refine SBox.f ?_ | refine SCall.p (by first | exact hp | exact ht) ?_ | fail | refine SApp.c rfl rfl (by first | assumption | exact Moves.more (by assumption) (by assumption) | fail) (by (simp only [List.length_cons, List.length_nil]; omega)) fun tk1 σ1 hm => ?_ | refine SReg.t 0 [] (by decide +kernel) ?_ | refine And.intro (by first | omega | (simp only [List.length_cons, List.length_append, List.length_nil, List.length_map, length_aBytes, List.length_replicate, List.length_range]; omega) | fail) ?_ | refine ⟨_, ⟨by first | omega | (simp only [List.length_cons, List.length_append, List.length_nil, List.length_map, length_aBytes, List.length_replicate, List.length_range]; omega) | fail, by exact gf⟩, ?_⟩ | refine ⟨_, toBytes_aBytes _, ?_⟩ | refine ⟨_, by repeat (first | exact toB_nil | apply toB_cons | apply toB_consC _ (by first | omega | (simp only [List.length_cons, List.length_append, List.length_nil, List.length_map, length_aBytes, List.length_replicate, List.length_range]; omega) | fail)), ?_⟩ | refine ⟨_, IntWalk.i64_in _ (by first | omega | (simp only [List.length_cons, List.length_append, List.length_nil, List.length_map, length_aBytes, List.length_replicate, List.length_range]; omega) | fail), ?_⟩ | refine ⟨_, wrap_u8 _, ?_⟩ | refine ⟨_, rfl, ?_⟩ | first | intro b1 hb1 | fail | fail); (try refine Xc_h ?_); (try (conv => whnf)); repeat (first | refine Hid.seq ?_ | (refine Hid.reg ?_; (conv => whnf)) | refine Hid.regD ?_ | refine Hid.cond rfl ?_ | refine Hid.block ?_ | refine Hid.loop ?_ | (refine Hid.exit ?_; (conv => whnf)) | (refine Hid.ret ?_; (conv => whnf)) | (refine Hid.skip ?_; (conv => whnf)) | (refine Hid.label ?_; (conv => whnf)) | refine Hid.range ?_)))
        refine ⟨(j + 1, tk1), by show fs.length - (j + 1) < fs.length - j; omega, ?_, .none _, hjl, by assumption⟩
        show xWeak [(1, .vp (eOp o)), (6, .slc 1 (strs (nm :: (fs.take (j + 1)).map (toldF o))) tk1), (33, .slc 1 (fs.map fun f : Nat => AV.int .i64 ((f : Nat) : Int)) .full), (34, .int .i64 (fs.map fun f : Nat => AV.int .i64 ((f : Nat) : Int)).length), (35, .int .i64 ((j + 1 : Nat) : Int))] _
        rw [hsn]
        repeat (first | exact trivial | refine ⟨by first | trivial | exact Weak.refl _ | exact Weak.tok _ _ _ | exact Weak.of_eq (congrArg (AV.int _) (by omega)) | exact Weak.of_eq (congrArg AV.bool (by fail)) | exact Weak.nils _ _ (.inr rfl), ?_⟩)
    · have hge : j = fs.length := by omega
      subst hge
      have hj := join_any w0 (nm :: fs.map (toldF o)) tk [32] (by simp) (by simp; omega) (by omega)
      rw [List.take_length]
      (try refine Xc_h ?_); (try (conv => whnf)); repeat (first | refine Hid.seq ?_ | (refine Hid.reg ?_; (conv => whnf)) | refine Hid.regD ?_ | refine Hid.cond rfl ?_ | refine Hid.block ?_ | refine Hid.loop ?_ | (refine Hid.exit ?_; (conv => whnf)) | (refine Hid.ret ?_; (conv => whnf)) | (refine Hid.skip ?_; (conv => whnf)) | (refine Hid.label ?_; (conv => whnf)) | refine Hid.range ?_)
      repeat' (((first | refine SIf.y Ty.mixed (by first | exact rfl | assumption | fail) ?_ | refine SIf.n Ty.mixed (by first | exact rfl | assumption | fail) ?_ | refine SCond.y (by first | exact rfl | assumption | fail) ?_ | refine SCond.n (by first | exact rfl | assumption | fail) ?_ | refine SPick.y (by first | exact rfl | assumption | fail) ?_ | refine SPick.n (by first | exact rfl | assumption | fail) ?_ | refine SPick.b ?_ | refine SPick.i ?_ | fail | refine SLoad.on 0 rfl ?_ | refine SLoad.on 1 rfl ?_ | refine SLoad.on 2 rfl ?_ | refine SLoad.on 3 rfl ?_ | refine SLoad.on 4 rfl ?_ | refine SLoad.on 5 rfl ?_ | refine SStore.on 0 rfl ?_ | refine SStore.on 1 rfl ?_ | refine SStore.on 2 rfl ?_ | refine SStore.on 3 rfl ?_ | refine SStore.on 4 rfl ?_ | refine SStore.on 5 rfl ?_ | refine SBox.f ?_ | refine SCall.p (by first | exact hj | exact hpa | exact hsame _) ?_ | fail | refine SApp.c rfl rfl (by first | assumption | exact Moves.more (by assumption) (by assumption) | fail) (by (simp only [List.length_cons, List.length_nil]; omega)) fun tk1 σ1 hm => ?_ | refine SReg.t 0 [] (by decide +kernel) ?_ | refine And.intro (by first | omega | (simp only [List.length_cons, List.length_append, List.length_nil, List.length_map, length_aBytes, List.length_replicate, List.length_range]; omega) | fail) ?_ | refine ⟨_, ⟨by first | omega | (simp only [List.length_cons, List.length_append, List.length_nil, List.length_map, length_aBytes, List.length_replicate, List.length_range]; omega) | fail, by exact gf⟩, ?_⟩ | refine ⟨_, toBytes_aBytes _, ?_⟩ | refine ⟨_, by repeat (first | exact toB_nil | apply toB_cons | apply toB_consC _ (by first | omega | (simp only [List.length_cons, List.length_append, List.length_nil, List.length_map, length_aBytes, List.length_replicate, List.length_range]; omega) | fail)), ?_⟩ | refine ⟨_, IntWalk.i64_in _ (by first | omega | (simp only [List.length_cons, List.length_append, List.length_nil, List.length_map, length_aBytes, List.length_replicate, List.length_range]; omega) | fail), ?_⟩ | refine ⟨_, wrap_u8 _, ?_⟩ | refine ⟨_, rfl, ?_⟩ | first | intro b1 hb1 | fail | fail); (try refine Xc_h ?_); (try (conv => whnf)); repeat (first | refine Hid.seq ?_ | (refine Hid.reg ?_; (conv => whnf)) | refine Hid.regD ?_ | refine Hid.cond rfl ?_ | refine Hid.block ?_ | refine Hid.loop ?_ | (refine Hid.exit ?_; (conv => whnf)) | (refine Hid.ret ?_; (conv => whnf)) | (refine Hid.skip ?_; (conv => whnf)) | (refine Hid.label ?_; (conv => whnf)) | refine Hid.range ?_)))
      refine SIf.n Ty.mixed (decide_eq_false (by rw [hfsl]; omega)) ?_
      (try refine Xc_h ?_); (try (conv => whnf)); repeat (first | refine Hid.seq ?_ | (refine Hid.reg ?_; (conv => whnf)) | refine Hid.regD ?_ | refine Hid.cond rfl ?_ | refine Hid.block ?_ | refine Hid.loop ?_ | (refine Hid.exit ?_; (conv => whnf)) | (refine Hid.ret ?_; (conv => whnf)) | (refine Hid.skip ?_; (conv => whnf)) | (refine Hid.label ?_; (conv => whnf)) | refine Hid.range ?_)
      by_cases he : e = 0
      · have d3 : (!decide ((e : Int) = 0)) = false := by rw [decide_eq_true (by omega)]; rfl
        by_cases hq : q = o
        · have d4 : (!decide (q = o)) = false := by rw [decide_eq_true hq]; rfl
          repeat' (((first | refine SIf.y Ty.mixed (by first | exact rfl | assumption | fail) ?_ | refine SIf.n Ty.mixed (by first | exact rfl | assumption | fail) ?_ | refine SCond.y (by first | exact rfl | assumption | fail) ?_ | refine SCond.n (by first | exact rfl | assumption | fail) ?_ | refine SPick.y (by first | exact rfl | assumption | fail) ?_ | refine SPick.n (by first | exact rfl | assumption | fail) ?_ | refine SPick.b ?_ | refine SPick.i ?_ | fail | refine SLoad.on 0 rfl ?_ | refine SLoad.on 1 rfl ?_ | refine SLoad.on 2 rfl ?_ | refine SLoad.on 3 rfl ?_ | refine SLoad.on 4 rfl ?_ | refine SLoad.on 5 rfl ?_ | refine SStore.on 0 rfl ?_ | refine SStore.on 1 rfl ?_ | refine SStore.on 2 rfl ?_ | refine SStore.on 3 rfl ?_ | refine SStore.on 4 rfl ?_ | refine SStore.on 5 rfl ?_ | refine SBox.f ?_ | refine SCall.p (by first | exact hj | exact hpa | exact hsame _) ?_ | fail | refine SApp.c rfl rfl (by first | assumption | exact Moves.more (by assumption) (by assumption) | fail) (by (simp only [List.length_cons, List.length_nil]; omega)) fun tk1 σ1 hm => ?_ | refine SReg.t 0 [] (by decide +kernel) ?_ | refine And.intro (by first | omega | (simp only [List.length_cons, List.length_append, List.length_nil, List.length_map, length_aBytes, List.length_replicate, List.length_range]; omega) | fail) ?_ | refine ⟨_, ⟨by first | omega | (simp only [List.length_cons, List.length_append, List.length_nil, List.length_map, length_aBytes, List.length_replicate, List.length_range]; omega) | fail, by exact gf⟩, ?_⟩ | refine ⟨_, toBytes_aBytes _, ?_⟩ | refine ⟨_, by repeat (first | exact toB_nil | apply toB_cons | apply toB_consC _ (by first | omega | (simp only [List.length_cons, List.length_append, List.length_nil, List.length_map, length_aBytes, List.length_replicate, List.length_range]; omega) | fail)), ?_⟩ | refine ⟨_, IntWalk.i64_in _ (by first | omega | (simp only [List.length_cons, List.length_append, List.length_nil, List.length_map, length_aBytes, List.length_replicate, List.length_range]; omega) | fail), ?_⟩ | refine ⟨_, wrap_u8 _, ?_⟩ | refine ⟨_, rfl, ?_⟩ | intro b10 hb10 | fail); (try refine Xc_h ?_); (try (conv => whnf)); repeat (first | refine Hid.seq ?_ | (refine Hid.reg ?_; (conv => whnf)) | refine Hid.regD ?_ | refine Hid.cond rfl ?_ | refine Hid.block ?_ | refine Hid.loop ?_ | (refine Hid.exit ?_; (conv => whnf)) | (refine Hid.ret ?_; (conv => whnf)) | (refine Hid.skip ?_; (conv => whnf)) | (refine Hid.label ?_; (conv => whnf)) | refine Hid.range ?_)))
          rw [if_pos (by rw [hq, he])]
          exact .p (le_new2 hm.le hb10) rfl
        · have d4 : (!decide (q = o)) = true := by rw [decide_eq_false hq]; rfl
          repeat' (((first | refine SIf.y Ty.mixed (by first | exact rfl | assumption | fail) ?_ | refine SIf.n Ty.mixed (by first | exact rfl | assumption | fail) ?_ | refine SCond.y (by first | exact rfl | assumption | fail) ?_ | refine SCond.n (by first | exact rfl | assumption | fail) ?_ | refine SPick.y (by first | exact rfl | assumption | fail) ?_ | refine SPick.n (by first | exact rfl | assumption | fail) ?_ | refine SPick.b ?_ | refine SPick.i ?_ | fail | refine SLoad.on 0 rfl ?_ | refine SLoad.on 1 rfl ?_ | refine SLoad.on 2 rfl ?_ | refine SLoad.on 3 rfl ?_ | refine SLoad.on 4 rfl ?_ | refine SLoad.on 5 rfl ?_ | refine SStore.on 0 rfl ?_ | refine SStore.on 1 rfl ?_ | refine SStore.on 2 rfl ?_ | refine SStore.on 3 rfl ?_ | refine SStore.on 4 rfl ?_ | refine SStore.on 5 rfl ?_ | refine SBox.f ?_ | refine SCall.p (by first | exact hj | exact hpa | exact hsame _) ?_ | fail | refine SApp.c rfl rfl (by first | assumption | exact Moves.more (by assumption) (by assumption) | fail) (by (simp only [List.length_cons, List.length_nil]; omega)) fun tk1 σ1 hm => ?_ | refine SReg.t 0 [] (by decide +kernel) ?_ | refine And.intro (by first | omega | (simp only [List.length_cons, List.length_append, List.length_nil, List.length_map, length_aBytes, List.length_replicate, List.length_range]; omega) | fail) ?_ | refine ⟨_, ⟨by first | omega | (simp only [List.length_cons, List.length_append, List.length_nil, List.length_map, length_aBytes, List.length_replicate, List.length_range]; omega) | fail, by exact gf⟩, ?_⟩ | refine ⟨_, toBytes_aBytes _, ?_⟩ | refine ⟨_, by repeat (first | exact toB_nil | apply toB_cons | apply toB_consC _ (by first | omega | (simp only [List.length_cons, List.length_append, List.length_nil, List.length_map, length_aBytes, List.length_replicate, List.length_range]; omega) | fail)), ?_⟩ | refine ⟨_, IntWalk.i64_in _ (by first | omega | (simp only [List.length_cons, List.length_append, List.length_nil, List.length_map, length_aBytes, List.length_replicate, List.length_range]; omega) | fail), ?_⟩ | refine ⟨_, wrap_u8 _, ?_⟩ | refine ⟨_, rfl, ?_⟩ | intro b10 hb10 | fail); (try refine Xc_h ?_); (try (conv => whnf)); repeat (first | refine Hid.seq ?_ | (refine Hid.reg ?_; (conv => whnf)) | refine Hid.regD ?_ | refine Hid.cond rfl ?_ | refine Hid.block ?_ | refine Hid.loop ?_ | (refine Hid.exit ?_; (conv => whnf)) | (refine Hid.ret ?_; (conv => whnf)) | (refine Hid.skip ?_; (conv => whnf)) | (refine Hid.label ?_; (conv => whnf)) | refine Hid.range ?_)))
          rw [if_neg (by intro e'; cases e'; exact hq rfl)]
          exact .p (le_new2 hm.le hb10) rfl
      · have d3 : (!decide ((e : Int) = 0)) = true := by rw [decide_eq_false (by omega)]; rfl
        repeat' (((first | refine SIf.y Ty.mixed (by first | exact rfl | assumption | fail) ?_ | refine SIf.n Ty.mixed (by first | exact rfl | assumption | fail) ?_ | refine SCond.y (by first | exact rfl | assumption | fail) ?_ | refine SCond.n (by first | exact rfl | assumption | fail) ?_ | refine SPick.y (by first | exact rfl | assumption | fail) ?_ | refine SPick.n (by first | exact rfl | assumption | fail) ?_ | refine SPick.b ?_ | refine SPick.i ?_ | fail | refine SLoad.on 0 rfl ?_ | refine SLoad.on 1 rfl ?_ | refine SLoad.on 2 rfl ?_ | refine SLoad.on 3 rfl ?_ | refine SLoad.on 4 rfl ?_ | refine SLoad.on 5 rfl ?_ | refine SStore.on 0 rfl ?_ | refine SStore.on 1 rfl ?_ | refine SStore.on 2 rfl ?_ | refine SStore.on 3 rfl ?_ | refine SStore.on 4 rfl ?_ | refine SStore.on 5 rfl ?_ | refine SBox.f ?_ | refine SCall.p (by first | exact hj | exact hpa | exact hsame _) ?_ | fail | refine SApp.c rfl rfl (by first | assumption | exact Moves.more (by assumption) (by assumption) | fail) (by (simp only [List.length_cons, List.length_nil]; omega)) fun tk1 σ1 hm => ?_ | refine SReg.t 0 [] (by decide +kernel) ?_ | refine And.intro (by first | omega | (simp only [List.length_cons, List.length_append, List.length_nil, List.length_map, length_aBytes, List.length_replicate, List.length_range]; omega) | fail) ?_ | refine ⟨_, ⟨by first | omega | (simp only [List.length_cons, List.length_append, List.length_nil, List.length_map, length_aBytes, List.length_replicate, List.length_range]; omega) | fail, by exact gf⟩, ?_⟩ | refine ⟨_, toBytes_aBytes _, ?_⟩ | refine ⟨_, by repeat (first | exact toB_nil | apply toB_cons | apply toB_consC _ (by first | omega | (simp only [List.length_cons, List.length_append, List.length_nil, List.length_map, length_aBytes, List.length_replicate, List.length_range]; omega) | fail)), ?_⟩ | refine ⟨_, IntWalk.i64_in _ (by first | omega | (simp only [List.length_cons, List.length_append, List.length_nil, List.length_map, length_aBytes, List.length_replicate, List.length_range]; omega) | fail), ?_⟩ | refine ⟨_, wrap_u8 _, ?_⟩ | refine ⟨_, rfl, ?_⟩ | intro b10 hb10 | fail); (try refine Xc_h ?_); (try (conv => whnf)); repeat (first | refine Hid.seq ?_ | (refine Hid.reg ?_; (conv => whnf)) | refine Hid.regD ?_ | refine Hid.cond rfl ?_ | refine Hid.block ?_ | refine Hid.loop ?_ | (refine Hid.exit ?_; (conv => whnf)) | (refine Hid.ret ?_; (conv => whnf)) | (refine Hid.skip ?_; (conv => whnf)) | (refine Hid.label ?_; (conv => whnf)) | refine Hid.range ?_)))
        rw [if_neg (by intro e'; cases e'; exact he rfl)]
        exact .p (le_new2 hm.le hb10) rfl
end Go.Proofs.YtjcikceophcooaaDoor
end
section
set_option linter.unusedVariables false
set_option linter.unusedSimpArgs false
set_option maxRecDepth 100000
set_option maxHeartbeats 4000000
namespace Go.Proofs.YtjcikceophcooaaDoor
open Go.Al Go.RowKit
def nmF (f : Nat) : List UInt8 := match f with
  | 0 => [110, 97, 109, 101]
  | 1 => [116, 111, 112, 105, 99]
  | 2 => [119, 97, 110, 116]
  | 3 => [98, 111, 100, 121]
  | 4 => [97, 116, 116, 114]
  | 5 => [100, 97, 116, 97]
  | 6 => [83, 117, 98]
  | 7 => [78]
  | _ => [83, 101, 113]
def nmV (p : List UInt8 × List Nat) : AV := .slc 1 (strs (p.1 :: p.2.map nmF)) .full
theorem names_any (w0 : Base) : CallP Tryd.prog w0 31 [] (.slc 1 (formsL.map nmV) .full) := by
  refine CallP.h Ty.tok Ty.mixed Tryd.func31 rfl Tryd.ntmps31 rfl (by simp) (by decide +kernel) fun σ => ?_
  (try refine Xc_h ?_); (try (conv => whnf)); repeat (first | refine Hid.seq ?_ | (refine Hid.reg ?_; (conv => whnf)) | refine Hid.regD ?_ | refine Hid.cond rfl ?_ | refine Hid.block ?_ | refine Hid.loop ?_ | (refine Hid.exit ?_; (conv => whnf)) | (refine Hid.ret ?_; (conv => whnf)) | (refine Hid.skip ?_; (conv => whnf)) | (refine Hid.label ?_; (conv => whnf)) | refine Hid.range ?_)
  repeat' (((first | refine SIf.y Ty.mixed (by first | exact rfl | assumption | fail) ?_ | refine SIf.n Ty.mixed (by first | exact rfl | assumption | fail) ?_ | refine SCond.y (by first | exact rfl | assumption | fail) ?_ | refine SCond.n (by first | exact rfl | assumption | fail) ?_ | refine SPick.y (by first | exact rfl | assumption | fail) ?_ | refine SPick.n (by first | exact rfl | assumption | fail) ?_ | refine SPick.b ?_ | refine SPick.i ?_ | fail | refine SLoad.on 0 rfl ?_ | refine SLoad.on 1 rfl ?_ | refine SLoad.on 2 rfl ?_ | refine SLoad.on 3 rfl ?_ | refine SLoad.on 4 rfl ?_ | refine SLoad.on 5 rfl ?_ | refine SStore.on 0 rfl ?_ | refine SStore.on 1 rfl ?_ | refine SStore.on 2 rfl ?_ | refine SStore.on 3 rfl ?_ | refine SStore.on 4 rfl ?_ | refine SStore.on 5 rfl ?_ | refine SBox.f ?_ | refine SCall.p (by fail) ?_ | fail | refine SApp.c rfl rfl (by first | assumption | exact Moves.more (by assumption) (by assumption) | fail) (by first | (simp only [length_aBytes, List.length_append, List.length_cons, List.length_nil, List.length_map, List.length_range]; omega) | omega | fail) fun tk1 σ1 hm => ?_ | refine SReg.t 0 [] (by decide +kernel) ?_ | refine And.intro (by first | omega | (simp only [List.length_cons, List.length_append, List.length_nil, List.length_map, length_aBytes, List.length_replicate, List.length_range]; omega) | fail) ?_ | refine ⟨_, ⟨by first | omega | (simp only [List.length_cons, List.length_append, List.length_nil, List.length_map, length_aBytes, List.length_replicate, List.length_range]; omega) | fail, by first | assumption | exact get_map (by assumption) | exact get_bytes (by assumption) | fail⟩, ?_⟩ | refine ⟨_, toBytes_aBytes _, ?_⟩ | refine ⟨_, by repeat (first | exact toB_nil | apply toB_cons | apply toB_consC _ (by first | omega | (simp only [List.length_cons, List.length_append, List.length_nil, List.length_map, length_aBytes, List.length_replicate, List.length_range]; omega) | fail)), ?_⟩ | refine ⟨_, IntWalk.i64_in _ (by first | omega | (simp only [List.length_cons, List.length_append, List.length_nil, List.length_map, length_aBytes, List.length_replicate, List.length_range]; omega) | fail), ?_⟩ | refine ⟨_, wrap_u8 _, ?_⟩ | refine ⟨_, rfl, ?_⟩ | refine ⟨true, fun b1 hb1 => ?_⟩ | intro b1 hb1 | fail); (try refine Xc_h ?_); (try (conv => whnf)); repeat (first | refine Hid.seq ?_ | (refine Hid.reg ?_; (conv => whnf)) | refine Hid.regD ?_ | refine Hid.cond rfl ?_ | refine Hid.block ?_ | refine Hid.loop ?_ | (refine Hid.exit ?_; (conv => whnf)) | (refine Hid.ret ?_; (conv => whnf)) | (refine Hid.skip ?_; (conv => whnf)) | (refine Hid.label ?_; (conv => whnf)) | refine Hid.range ?_)))
  exact .p (.refl _) rfl
def textF (o : OpV) (f : Nat) (s : List UInt8) : OpV := match f with
  | 0 => { o with name := s }
  | 1 => { o with topic := s }
  | 2 => { o with want := s }
  | 3 => { o with body := s }
  | 4 => { o with attr := s }
  | _ => { o with data := s }
theorem text_any (w0 : Base) (o : OpV) (f : Nat) (hf : f < 6) (s : List UInt8) (hs : s.length ≤ 1000000000000) : CallP Tryd.prog w0 54 [eOp o, .str (nmF f), .str s] (eOp (textF o f s)) := by
  refine CallP.h Ty.tok Ty.mixed Tryd.func54 rfl Tryd.ntmps54 rfl (by simp) (by decide +kernel) fun σ => ?_
  have h6 : f = 0 ∨ f = 1 ∨ f = 2 ∨ f = 3 ∨ f = 4 ∨ f = 5 := by omega
  rcases h6 with rfl | rfl | rfl | rfl | rfl | rfl
  all_goals
    (try refine Xc_h ?_); (try (conv => whnf)); repeat (first | refine Hid.seq ?_ | (refine Hid.reg ?_; (conv => whnf)) | refine Hid.regD ?_ | refine Hid.cond rfl ?_ | refine Hid.block ?_ | refine Hid.loop ?_ | (refine Hid.exit ?_; (conv => whnf)) | (refine Hid.ret ?_; (conv => whnf)) | (refine Hid.skip ?_; (conv => whnf)) | (refine Hid.label ?_; (conv => whnf)) | refine Hid.range ?_)
    repeat' (((first | refine SIf.y Ty.mixed (by first | exact rfl | assumption | fail) ?_ | refine SIf.n Ty.mixed (by first | exact rfl | assumption | fail) ?_ | refine SCond.y (by first | exact rfl | assumption | fail) ?_ | refine SCond.n (by first | exact rfl | assumption | fail) ?_ | refine SPick.y (by first | exact rfl | assumption | fail) ?_ | refine SPick.n (by first | exact rfl | assumption | fail) ?_ | refine SPick.b ?_ | refine SPick.i ?_ | fail | refine SLoad.on 0 rfl ?_ | refine SLoad.on 1 rfl ?_ | refine SLoad.on 2 rfl ?_ | refine SLoad.on 3 rfl ?_ | refine SLoad.on 4 rfl ?_ | refine SLoad.on 5 rfl ?_ | refine SStore.on 0 rfl ?_ | refine SStore.on 1 rfl ?_ | refine SStore.on 2 rfl ?_ | refine SStore.on 3 rfl ?_ | refine SStore.on 4 rfl ?_ | refine SStore.on 5 rfl ?_ | refine SBox.b rfl ?_ | refine SCall.p (by fail) ?_ | fail | refine SApp.c rfl rfl (by first | assumption | exact Moves.more (by assumption) (by assumption) | fail) (by first | (simp only [length_aBytes, List.length_append, List.length_cons, List.length_nil, List.length_map, List.length_range]; omega) | omega | fail) fun tk1 σ1 hm => ?_ | refine SReg.t 0 [] (by decide +kernel) ?_ | refine And.intro (by first | omega | (simp only [List.length_cons, List.length_append, List.length_nil, List.length_map, length_aBytes, List.length_replicate, List.length_range]; omega) | fail) ?_ | refine ⟨_, ⟨by first | omega | (simp only [List.length_cons, List.length_append, List.length_nil, List.length_map, length_aBytes, List.length_replicate, List.length_range]; omega) | fail, by first | assumption | exact get_map (by assumption) | exact get_bytes (by assumption) | fail⟩, ?_⟩ | refine ⟨_, toBytes_aBytes _, ?_⟩ | refine ⟨_, by repeat (first | exact toB_nil | apply toB_cons | apply toB_consC _ (by first | omega | (simp only [List.length_cons, List.length_append, List.length_nil, List.length_map, length_aBytes, List.length_replicate, List.length_range]; omega) | fail)), ?_⟩ | refine ⟨_, IntWalk.i64_in _ (by first | omega | (simp only [List.length_cons, List.length_append, List.length_nil, List.length_map, length_aBytes, List.length_replicate, List.length_range]; omega) | fail), ?_⟩ | refine ⟨_, wrap_u8 _, ?_⟩ | refine ⟨_, rfl, ?_⟩ | refine ⟨true, fun b1 hb1 => ?_⟩ | intro b1 hb1 | fail); (try refine Xc_h ?_); (try (conv => whnf)); repeat (first | refine Hid.seq ?_ | (refine Hid.reg ?_; (conv => whnf)) | refine Hid.regD ?_ | refine Hid.cond rfl ?_ | refine Hid.block ?_ | refine Hid.loop ?_ | (refine Hid.exit ?_; (conv => whnf)) | (refine Hid.ret ?_; (conv => whnf)) | (refine Hid.skip ?_; (conv => whnf)) | (refine Hid.label ?_; (conv => whnf)) | refine Hid.range ?_)))
    rename_i bp hbp
    have hb2 := le_none (le_setBox (.refl σ) hbp) hb1
    exact .p (le_setBox (le_setBox (le_setBox (le_setBox (.refl _) hbp) hb2) hbp) hb2) rfl
theorem told22_any (w0 : Base) (hL : Laid w0) (o : OpV) (f : Nat) (hf : f < 9) (ho : OpS o) : CallP Tryd.prog w0 32 [eOp o, .str (nmF f)] (.str (toldF o f)) := by
  obtain ⟨⟨s1, s2, s3, s4, s5, s6⟩, ⟨⟨i1, j1⟩, ⟨i2, j2⟩, i3, j3⟩, k⟩ := ho
  have c1 := refQuote_any w0 o.name (by omega)
  have c2 := refQuote_any w0 o.topic (by omega)
  have c3 := refQuote_any w0 o.want (by omega)
  have c4 := refQuote_any w0 o.body (by omega)
  have c5 := refQuote_any w0 o.attr (by omega)
  have c6 := refQuote_any w0 o.data (by omega)
  have c7 := itoa_any w0 hL o.sub i1 j1
  have c8 := itoa_any w0 hL o.n i2 j2
  have c9 := itoa_any w0 hL o.seq i3 j3
  refine CallP.h Ty.tok Ty.mixed Tryd.func32 rfl Tryd.ntmps32 rfl (by simp) (by decide +kernel) fun σ => ?_
  rcases nine hf with rfl | rfl | rfl | rfl | rfl | rfl | rfl | rfl | rfl
  all_goals
    (try refine Xc_h ?_); (try (conv => whnf)); repeat (first | refine Hid.seq ?_ | (refine Hid.reg ?_; (conv => whnf)) | refine Hid.regD ?_ | refine Hid.cond rfl ?_ | refine Hid.block ?_ | refine Hid.loop ?_ | (refine Hid.exit ?_; (conv => whnf)) | (refine Hid.ret ?_; (conv => whnf)) | (refine Hid.skip ?_; (conv => whnf)) | (refine Hid.label ?_; (conv => whnf)) | refine Hid.range ?_)
    repeat' (((first | refine SIf.y Ty.mixed (by first | exact rfl | assumption | fail) ?_ | refine SIf.n Ty.mixed (by first | exact rfl | assumption | fail) ?_ | refine SCond.y (by first | exact rfl | assumption | fail) ?_ | refine SCond.n (by first | exact rfl | assumption | fail) ?_ | refine SPick.y (by first | exact rfl | assumption | fail) ?_ | refine SPick.n (by first | exact rfl | assumption | fail) ?_ | refine SPick.b ?_ | refine SPick.i ?_ | fail | refine SLoad.on 0 rfl ?_ | refine SLoad.on 1 rfl ?_ | refine SLoad.on 2 rfl ?_ | refine SLoad.on 3 rfl ?_ | refine SLoad.on 4 rfl ?_ | refine SLoad.on 5 rfl ?_ | refine SStore.on 0 rfl ?_ | refine SStore.on 1 rfl ?_ | refine SStore.on 2 rfl ?_ | refine SStore.on 3 rfl ?_ | refine SStore.on 4 rfl ?_ | refine SStore.on 5 rfl ?_ | refine SBox.f ?_ | refine SCall.p (by first | exact c1 | exact c2 | exact c3 | exact c4 | exact c5 | exact c6 | exact c7 | exact c8 | exact c9) ?_ | fail | refine SApp.c rfl rfl (by first | assumption | exact Moves.more (by assumption) (by assumption) | fail) (by first | (simp only [length_aBytes, List.length_append, List.length_cons, List.length_nil, List.length_map, List.length_range]; omega) | omega | fail) fun tk1 σ1 hm => ?_ | refine SReg.t 0 [] (by decide +kernel) ?_ | refine And.intro (by first | omega | (simp only [List.length_cons, List.length_append, List.length_nil, List.length_map, length_aBytes, List.length_replicate, List.length_range]; omega) | fail) ?_ | refine ⟨_, ⟨by first | omega | (simp only [List.length_cons, List.length_append, List.length_nil, List.length_map, length_aBytes, List.length_replicate, List.length_range]; omega) | fail, by first | assumption | exact get_map (by assumption) | exact get_bytes (by assumption) | fail⟩, ?_⟩ | refine ⟨_, toBytes_aBytes _, ?_⟩ | refine ⟨_, by repeat (first | exact toB_nil | apply toB_cons | apply toB_consC _ (by first | omega | (simp only [List.length_cons, List.length_append, List.length_nil, List.length_map, length_aBytes, List.length_replicate, List.length_range]; omega) | fail)), ?_⟩ | refine ⟨_, IntWalk.i64_in _ (by first | omega | (simp only [List.length_cons, List.length_append, List.length_nil, List.length_map, length_aBytes, List.length_replicate, List.length_range]; omega) | fail), ?_⟩ | refine ⟨_, wrap_u8 _, ?_⟩ | refine ⟨_, rfl, ?_⟩ | refine ⟨true, fun b1 hb1 => ?_⟩ | intro b1 hb1 | fail); (try refine Xc_h ?_); (try (conv => whnf)); repeat (first | refine Hid.seq ?_ | (refine Hid.reg ?_; (conv => whnf)) | refine Hid.regD ?_ | refine Hid.cond rfl ?_ | refine Hid.block ?_ | refine Hid.loop ?_ | (refine Hid.exit ?_; (conv => whnf)) | (refine Hid.ret ?_; (conv => whnf)) | (refine Hid.skip ?_; (conv => whnf)) | (refine Hid.label ?_; (conv => whnf)) | refine Hid.range ?_)))
    exact .p (.refl _) rfl
theorem set_text (o : OpV) (f : Nat) (hf : f < 6) (w : List UInt8) : setF o f w = (textF o f (uq w), uk w) := by
  have h6 : f = 0 ∨ f = 1 ∨ f = 2 ∨ f = 3 ∨ f = 4 ∨ f = 5 := by omega
  rcases h6 with rfl | rfl | rfl | rfl | rfl | rfl <;> rfl
theorem field_any (w0 : Base) (hL : Laid w0) (o : OpV) (f : Nat) (hf : f < 9) (w : List UInt8) (hw : w.length ≤ 1000000000000) : CallP Tryd.prog w0 46 [eOp o, .str (nmF f), .str w] (.tup [eOp (setF o f w).1, .bool (setF o f w).2]) := by
  have hu := refUnquote_any w0 w hw
  rw [unqR_eq] at hu
  have hn : CallP Tryd.prog w0 55 [.str w] (.tup [.int .i64 (goAtoi w).1, .bool (numOk w)]) := refNumber_any w0 hL w hw
  have hlq : (uq w).length ≤ 1000000000000 := by
    rw [uq]
    cases h : unqT w with
    | none => simp
    | some l => have := unqT_len h; simp; omega
  refine CallP.h Ty.tok Ty.mixed Tryd.func46 rfl Tryd.ntmps46 rfl (by simp) (by decide +kernel) fun σ => ?_
  by_cases h6 : f < 6
  · rw [set_text o f h6]
    have ht := text_any w0 o f h6 (uq w) hlq
    generalize textF o f (uq w) = q at *
    have hc : f = 0 ∨ f = 1 ∨ f = 2 ∨ f = 3 ∨ f = 4 ∨ f = 5 := by omega
    rcases hc with rfl | rfl | rfl | rfl | rfl | rfl
    all_goals
      (try refine Xc_h ?_); (try (conv => whnf)); repeat (first | refine Hid.seq ?_ | (refine Hid.reg ?_; (conv => whnf)) | refine Hid.regD ?_ | refine Hid.cond rfl ?_ | refine Hid.block ?_ | refine Hid.loop ?_ | (refine Hid.exit ?_; (conv => whnf)) | (refine Hid.ret ?_; (conv => whnf)) | (refine Hid.skip ?_; (conv => whnf)) | (refine Hid.label ?_; (conv => whnf)) | refine Hid.range ?_)
      repeat' (((first | refine SIf.y Ty.mixed (by first | exact rfl | assumption | fail) ?_ | refine SIf.n Ty.mixed (by first | exact rfl | assumption | fail) ?_ | refine SCond.y (by first | exact rfl | assumption | fail) ?_ | refine SCond.n (by first | exact rfl | assumption | fail) ?_ | refine SPick.y (by first | exact rfl | assumption | fail) ?_ | refine SPick.n (by first | exact rfl | assumption | fail) ?_ | refine SPick.b ?_ | refine SPick.i ?_ | fail | refine SLoad.on 0 rfl ?_ | refine SLoad.on 1 rfl ?_ | refine SLoad.on 2 rfl ?_ | refine SLoad.on 3 rfl ?_ | refine SLoad.on 4 rfl ?_ | refine SLoad.on 5 rfl ?_ | refine SStore.on 0 rfl ?_ | refine SStore.on 1 rfl ?_ | refine SStore.on 2 rfl ?_ | refine SStore.on 3 rfl ?_ | refine SStore.on 4 rfl ?_ | refine SStore.on 5 rfl ?_ | refine SBox.f ?_ | refine SCall.p (by first | exact hu | exact ht) ?_ | fail | refine SApp.c rfl rfl (by first | assumption | exact Moves.more (by assumption) (by assumption) | fail) (by first | (simp only [length_aBytes, List.length_append, List.length_cons, List.length_nil, List.length_map, List.length_range]; omega) | omega | fail) fun tk1 σ1 hm => ?_ | refine SReg.t 0 [] (by decide +kernel) ?_ | refine And.intro (by first | omega | (simp only [List.length_cons, List.length_append, List.length_nil, List.length_map, length_aBytes, List.length_replicate, List.length_range]; omega) | fail) ?_ | refine ⟨_, ⟨by first | omega | (simp only [List.length_cons, List.length_append, List.length_nil, List.length_map, length_aBytes, List.length_replicate, List.length_range]; omega) | fail, by exact rfl⟩, ?_⟩ | refine ⟨_, toBytes_aBytes _, ?_⟩ | refine ⟨_, by repeat (first | exact toB_nil | apply toB_cons | apply toB_consC _ (by first | omega | (simp only [List.length_cons, List.length_append, List.length_nil, List.length_map, length_aBytes, List.length_replicate, List.length_range]; omega) | fail)), ?_⟩ | refine ⟨_, IntWalk.i64_in _ (by first | omega | (simp only [List.length_cons, List.length_append, List.length_nil, List.length_map, length_aBytes, List.length_replicate, List.length_range]; omega) | fail), ?_⟩ | refine ⟨_, wrap_u8 _, ?_⟩ | refine ⟨_, rfl, ?_⟩ | refine ⟨true, fun b1 hb1 => ?_⟩ | intro b1 hb1 | fail); (try refine Xc_h ?_); (try (conv => whnf)); repeat (first | refine Hid.seq ?_ | (refine Hid.reg ?_; (conv => whnf)) | refine Hid.regD ?_ | refine Hid.cond rfl ?_ | refine Hid.block ?_ | refine Hid.loop ?_ | (refine Hid.exit ?_; (conv => whnf)) | (refine Hid.ret ?_; (conv => whnf)) | (refine Hid.skip ?_; (conv => whnf)) | (refine Hid.label ?_; (conv => whnf)) | refine Hid.range ?_)))
      exact .p (le_new2 (.refl _) hb1) rfl
  · have hc : f = 6 ∨ f = 7 ∨ f = 8 := by omega
    rcases hc with rfl | rfl | rfl
    all_goals
      (try refine Xc_h ?_); (try (conv => whnf)); repeat (first | refine Hid.seq ?_ | (refine Hid.reg ?_; (conv => whnf)) | refine Hid.regD ?_ | refine Hid.cond rfl ?_ | refine Hid.block ?_ | refine Hid.loop ?_ | (refine Hid.exit ?_; (conv => whnf)) | (refine Hid.ret ?_; (conv => whnf)) | (refine Hid.skip ?_; (conv => whnf)) | (refine Hid.label ?_; (conv => whnf)) | refine Hid.range ?_)
      repeat' (((first | refine SIf.y Ty.mixed (by first | exact rfl | assumption | fail) ?_ | refine SIf.n Ty.mixed (by first | exact rfl | assumption | fail) ?_ | refine SCond.y (by first | exact rfl | assumption | fail) ?_ | refine SCond.n (by first | exact rfl | assumption | fail) ?_ | refine SPick.y (by first | exact rfl | assumption | fail) ?_ | refine SPick.n (by first | exact rfl | assumption | fail) ?_ | refine SPick.b ?_ | refine SPick.i ?_ | fail | refine SLoad.on 0 rfl ?_ | refine SLoad.on 1 rfl ?_ | refine SLoad.on 2 rfl ?_ | refine SLoad.on 3 rfl ?_ | refine SLoad.on 4 rfl ?_ | refine SLoad.on 5 rfl ?_ | refine SStore.on 0 rfl ?_ | refine SStore.on 1 rfl ?_ | refine SStore.on 2 rfl ?_ | refine SStore.on 3 rfl ?_ | refine SStore.on 4 rfl ?_ | refine SStore.on 5 rfl ?_ | refine SBox.b rfl ?_ | refine SCall.p (by first | exact hn) ?_ | fail | refine SApp.c rfl rfl (by first | assumption | exact Moves.more (by assumption) (by assumption) | fail) (by first | (simp only [length_aBytes, List.length_append, List.length_cons, List.length_nil, List.length_map, List.length_range]; omega) | omega | fail) fun tk1 σ1 hm => ?_ | refine SReg.t 0 [] (by decide +kernel) ?_ | refine And.intro (by first | omega | (simp only [List.length_cons, List.length_append, List.length_nil, List.length_map, length_aBytes, List.length_replicate, List.length_range]; omega) | fail) ?_ | refine ⟨_, ⟨by first | omega | (simp only [List.length_cons, List.length_append, List.length_nil, List.length_map, length_aBytes, List.length_replicate, List.length_range]; omega) | fail, by exact rfl⟩, ?_⟩ | refine ⟨_, toBytes_aBytes _, ?_⟩ | refine ⟨_, by repeat (first | exact toB_nil | apply toB_cons | apply toB_consC _ (by first | omega | (simp only [List.length_cons, List.length_append, List.length_nil, List.length_map, length_aBytes, List.length_replicate, List.length_range]; omega) | fail)), ?_⟩ | refine ⟨_, IntWalk.i64_in _ (by first | omega | (simp only [List.length_cons, List.length_append, List.length_nil, List.length_map, length_aBytes, List.length_replicate, List.length_range]; omega) | fail), ?_⟩ | refine ⟨_, wrap_u8 _, ?_⟩ | refine ⟨_, rfl, ?_⟩ | refine ⟨true, fun b1 hb1 => ?_⟩ | intro b1 hb1 | fail); (try refine Xc_h ?_); (try (conv => whnf)); repeat (first | refine Hid.seq ?_ | (refine Hid.reg ?_; (conv => whnf)) | refine Hid.regD ?_ | refine Hid.cond rfl ?_ | refine Hid.block ?_ | refine Hid.loop ?_ | (refine Hid.exit ?_; (conv => whnf)) | (refine Hid.ret ?_; (conv => whnf)) | (refine Hid.skip ?_; (conv => whnf)) | (refine Hid.label ?_; (conv => whnf)) | refine Hid.range ?_)))
      rename_i bp hbp
      have hb2 := le_none (le_setBox (.refl σ) hbp) hb1
      exact .p (le_setBox (le_setBox (le_setBox (le_setBox (.refl _) hbp) hb2) hbp) hb2) rfl
end Go.Proofs.YtjcikceophcooaaDoor
end
section
set_option linter.unusedVariables false
set_option linter.unusedSimpArgs false
set_option maxRecDepth 100000
set_option maxHeartbeats 4000000
namespace Go.Proofs.YtjcikceophcooaaDoor
open Go.Al Go.RowKit
theorem refParse_any (w0 : Base) (hL : Laid w0) (line : List UInt8) (hs : line.length ≤ 1000000000) : CallP Tryd.prog w0 33 [.str line] (.tup [eOp (parseT line).1, .int .i64 (parseT line).2]) := fun σ => by
  have hsp : CallP Tryd.prog w0 45 [.str line, .int .u8 32] (.slc 1 (strs (pcs 32 line)) .no) := refWords_any w0 line 32 (by omega)
  have hml := fun p hp => Nat.le_trans (pcs_mem_len32 line p hp) hs
  have hpl := pcs_len 32 line
  rw [parseT]
  cases hp : pcs 32 line with
  | nil => exact absurd hp (pcs_ne 32 line)
  | cons x ws =>
  rw [hp] at hsp hml hpl
  dsimp only
  have hno := names_any w0
  have hfl := forms_fld
  have hf20 : formsL.length = 20 := rfl
  generalize formsL = fl at *
  refine CallW.h (B := []) Ty.tok Ty.mixed Tryd.func33 rfl Tryd.ntmps33 rfl (by simp) (by decide +kernel) (.nil σ) ?_; (conv => whnf); refine Hid.seq ?_; refine Hid.reg ?_; (conv => whnf); intro b2 hb2; (conv => whnf); refine Hid.seq ?_; refine Hid.reg ?_; (conv => whnf); refine SCall.p (by exact hsp) ?_; (conv => whnf); refine Hid.seq ?_
  refine Hid.reg ?_; (conv => whnf); refine SCall.p (by exact hno) ?_; (conv => whnf); refine Hid.seq ?_; refine Hid.seq ?_; refine Hid.reg ?_; (conv => whnf); refine Hid.block ?_; refine Hid.loop ?_
  have hle0 : St.Le σ (σ.setBox b2 (oC op0 .nils)) := le_new (.refl _) hb2
  have hln : (fl.map nmV).length = fl.length := by simp
  have hws : (strs (x :: ws)).length = ws.length + 1 := by rw [strs_len8]; simp
  have hw0 : (strs (x :: ws))[0]? = some (.str x) := rfl
  have hwj : ∀ j : Nat, (hj : j < ws.length) → (strs (x :: ws))[j + 1]? = some (.str ws[j]) := fun j hj => by simp [strs, hj]
  generalize strs (x :: ws) = row at *
  refine SLoop.by Ty.mixed (fun i : Nat => fl.length - i) (fun i => [(2, .ptr b2 0), (4, .slc 1 row .no), (5, .slc 1 (fl.map nmV) .full), (6, .int .i64 i)]) (fun _ => [(b2, oC op0 .nils)]) (fun i τ => i ≤ fl.length ∧ parseAt (fl.drop i) i x ws = parseAt fl 0 x ws ∧ St.Le σ τ) 0 ⟨by repeat (first | exact trivial | refine ⟨by first | trivial | exact Weak.refl _ | exact Weak.tok _ _ _ | exact Weak.of_eq (congrArg (AV.int _) (by omega)) | exact Weak.of_eq (congrArg AV.bool (by fail)) | exact Weak.nils _ _ (.inr rfl), ?_⟩), .refl _, Nat.zero_le _, rfl, hle0⟩ ?_
  rintro i τ ⟨hi, hd, hle⟩
  by_cases hlt : i < fl.length
  · have ga : (fl.map nmV)[((i : Int)).toNat]? = some (nmV fl[i]) := by simp [hlt]
    have hfn := hfl _ (List.getElem_mem hlt)
    rw [List.drop_eq_getElem_cons hlt] at hd
    generalize fl[i] = q at *
    obtain ⟨n, fs⟩ := q
    rw [parseAt] at hd
    dsimp only at hfn
    obtain ⟨hf5, hfn⟩ := hfn
    have hns : (strs (n :: fs.map nmF)).length = fs.length + 1 := by rw [strs_len8]; simp
    have hn0 : (strs (n :: fs.map nmF))[0]? = some (.str n) := rfl
    have hnj : ∀ j : Nat, (hj : j < fs.length) → (strs (n :: fs.map nmF))[j + 1]? = some (.str (nmF fs[j])) := fun j hj => by simp [strs, hj]
    rw [nmV] at ga
    dsimp only at ga
    generalize strs (n :: fs.map nmF) = nr at *
    refine Xc_h ?_; (conv => whnf); refine Hid.seq ?_; refine Hid.seq ?_; refine Hid.reg ?_; (conv => whnf); refine Hid.cond rfl ?_
    skip
    refine SIf.y Ty.mixed (decide_eq_true (by rw [hln]; omega)) ?_; refine Xc_h ?_; (conv => whnf); refine Hid.skip ?_; (conv => whnf); refine Hid.seq ?_; refine Hid.seq ?_; refine Hid.seq ?_; refine Hid.regD ?_; refine SReg.t 0 [] (by decide +kernel) ?_; (conv => whnf)
    refine ⟨_, ⟨by first | omega | (rw [hln]; omega) | fail, by first | exact ⟨by omega, ga⟩ | exact ga | exact ⟨by omega, hn0⟩ | exact hn0 | exact ⟨by omega, hw0⟩ | exact hw0⟩, ?_⟩
    (conv => whnf)
    refine ⟨_, ⟨by first | omega | (rw [hln]; omega) | fail, by first | exact ⟨by omega, ga⟩ | exact ga | exact ⟨by omega, hn0⟩ | exact hn0 | exact ⟨by omega, hw0⟩ | exact hw0⟩, ?_⟩
    (conv => whnf)
    refine ⟨_, ⟨by first | omega | (rw [hln]; omega) | fail, by first | exact ⟨by omega, ga⟩ | exact ga | exact ⟨by omega, hn0⟩ | exact hn0 | exact ⟨by omega, hw0⟩ | exact hw0⟩, ?_⟩
    (conv => whnf); refine Hid.cond rfl ?_
    by_cases hne : n = x
    · refine SIf.n Ty.mixed (by simp [hne]) ?_
      rw [if_pos hne] at hd
      refine Xc_h ?_; (conv => whnf); refine Hid.skip ?_; (conv => whnf); refine Hid.seq ?_; refine Hid.reg ?_; (conv => whnf); refine ⟨_, IntWalk.i64_in _ (by omega), ?_⟩; (conv => whnf); intro b7 hb7; (conv => whnf); refine SStore.on 0 rfl ?_; (conv => whnf); refine Hid.seq ?_; refine Hid.seq ?_; refine Hid.reg ?_; (conv => whnf)
      refine ⟨_, ⟨by first | omega | (rw [hln]; omega) | fail, by first | exact ⟨by omega, ga⟩ | exact ga | exact ⟨by omega, hn0⟩ | exact hn0 | exact ⟨by omega, hw0⟩ | exact hw0⟩, ?_⟩
      (conv => whnf); refine Hid.cond rfl ?_
      by_cases hlen : ws.length = fs.length
      · refine SIf.n Ty.mixed (by rw [hws, hns, decide_eq_true (by omega)]; rfl) ?_
        rw [if_pos hlen] at hd
        refine Xc_h ?_; (conv => whnf); refine Hid.skip ?_; (conv => whnf); refine Hid.seq ?_; refine Hid.seq ?_; refine Hid.reg ?_; (conv => whnf); refine Hid.block ?_; refine Hid.loop ?_
        skip
        have hle7 : St.Le σ ((τ.setBox b7 (oC op0 .nils)).setBox b7 (oC (opK ((i : Int) + 1)) .nils)) := le_new2 hle hb7
        refine SLoop.weakBox 0 rfl (weak_cells ((i : Int) + 1)) ?_
        refine SLoop.by Ty.mixed (fun ((j, o) : Nat × OpV) => fs.length - j) (fun (j, o) => [(2, .ptr b2 0), (4, .slc 1 row .no), (5, .slc 1 (fl.map nmV) .full), (6, .int .i64 i), (7, .ptr b7 0), (8, .int .i64 ((j : Int) + 1))]) (fun (j, o) => [(b7, oC o (dB o.data)), (b2, oC op0 .nils)]) (fun (j, o) s => j ≤ fs.length ∧ fillR o (fs.drop j) (ws.drop j) = fillR (opK ((i : Int) + 1)) fs ws ∧ St.Le σ s) (0, opK ((i : Int) + 1)) ⟨by repeat (first | exact trivial | refine ⟨by first | trivial | exact Weak.refl _ | exact Weak.tok _ _ _ | exact Weak.of_eq (congrArg (AV.int _) (by omega)) | exact Weak.of_eq (congrArg AV.bool (by fail)) | exact Weak.nils _ _ (.inr rfl), ?_⟩), .refl _, Nat.zero_le _, rfl, le_setBox hle7 (le_none hle hb7)⟩ ?_
        rintro ⟨j, o⟩ s ⟨hj, hf, hls⟩
        dsimp only at hj hf hls ⊢
        by_cases hjl : j < fs.length
        · have hjw : j < ws.length := by omega
          have gn : nr[((j : Int) + 1).toNat]? = some (.str (nmF fs[j])) := by rw [show ((j : Int) + 1).toNat = j + 1 by omega]; exact hnj j hjl
          have gw : row[((j : Int) + 1).toNat]? = some (.str ws[j]) := by rw [show ((j : Int) + 1).toNat = j + 1 by omega]; exact hwj j hjw
          have hf9 := hfn _ (List.getElem_mem hjl)
          have hw9 := hml ws[j] (by simp)
          rw [List.drop_eq_getElem_cons hjl, List.drop_eq_getElem_cons hjw, fillR] at hf
          have hfd := field_any w0 hL o fs[j] hf9 ws[j] (by omega)
          generalize fs[j] = f9 at *
          generalize ws[j] = w9 at *
          generalize setF o f9 w9 = so at *
          obtain ⟨o', ok⟩ := so
          dsimp only at hf hfd
          refine Xc_h ?_; (conv => whnf); refine Hid.seq ?_; refine Hid.seq ?_; refine Hid.reg ?_; (conv => whnf); refine Hid.cond rfl ?_
          skip
          refine SIf.y Ty.mixed (decide_eq_true (by rw [hws]; omega)) ?_; refine Xc_h ?_; (conv => whnf); refine Hid.skip ?_; (conv => whnf); refine Hid.seq ?_; refine Hid.seq ?_; refine Hid.regD ?_
          skip
          refine SReg.h 0 rfl [1, 2, 3, 5, 8, 9, 10, 0, 4, 6, 7, 11, 12, 13, 14, 15, 16, 17, 18] [3, 0, 0, 0, 3, 0, 0, 3, 0, 0, 0, 3, 0, 0, 0, 0, 4, 2, 0] (by decide +kernel) ?_; (conv => whnf)
          refine ⟨_, ⟨by first | omega | (rw [hln]; omega) | fail, by first | exact ⟨by omega, ga⟩ | exact ga | exact ⟨by omega, gn⟩ | exact gn | exact ⟨by omega, gw⟩ | exact gw⟩, ?_⟩
          (conv => whnf)
          refine ⟨_, ⟨by first | omega | (rw [hln]; omega) | fail, by first | exact ⟨by omega, ga⟩ | exact ga | exact ⟨by omega, gn⟩ | exact gn | exact ⟨by omega, gw⟩ | exact gw⟩, ?_⟩
          (conv => whnf); refine SLoadH.on 0 rfl rfl ?_; (conv => whnf)
          refine ⟨_, ⟨by first | omega | (rw [hln]; omega) | fail, by first | exact ⟨by omega, ga⟩ | exact ga | exact ⟨by omega, gn⟩ | exact gn | exact ⟨by omega, gw⟩ | exact gw⟩, ?_⟩
          (conv => whnf); refine SCall.p (by exact hfd) ?_; (conv => whnf); intro b9 hb9; (conv => whnf); refine SStore.on 0 rfl ?_; (conv => whnf); refine Hid.seq ?_; refine Hid.seq ?_; refine Hid.reg ?_; (conv => whnf); refine Hid.cond rfl ?_
          cases ok with
          | true =>
            refine SIf.n Ty.mixed rfl ?_; refine Xc_h ?_; (conv => whnf); refine Hid.skip ?_; (conv => whnf); refine Hid.reg ?_; (conv => whnf); refine SLoad.on 0 rfl ?_; (conv => whnf); refine SStore.on 1 rfl ?_; (conv => whnf); refine Hid.reg ?_; (conv => whnf); refine ⟨_, IntWalk.i64_in _ (by omega), ?_⟩; (conv => whnf)
            rw [if_pos rfl] at hf
            refine ⟨(j + 1, o'), by show fs.length - (j + 1) < fs.length - j; omega, ?_, .drop (.refl _), hjl, hf, le_setBox (le_new2 hls hb9) (le_none hle hb7)⟩
            show xWeak [(2, .ptr b2 0), (4, .slc 1 row .no), (5, .slc 1 (fl.map nmV) .full), (6, .int .i64 i), (7, .ptr b7 0), (8, .int .i64 (((j + 1 : Nat) : Int) + 1))] _
            repeat (first | exact trivial | refine ⟨by first | trivial | exact Weak.refl _ | exact Weak.tok _ _ _ | exact Weak.of_eq (congrArg (AV.int _) (by omega)) | exact Weak.of_eq (congrArg AV.bool (by fail)) | exact Weak.nils _ _ (.inr rfl), ?_⟩)
          | false =>
            refine SIf.y Ty.mixed rfl ?_; refine Xc_h ?_; (conv => whnf); refine Hid.seq ?_; refine Hid.reg ?_; (conv => whnf); refine SStore.on 2 rfl ?_; (conv => whnf); refine Hid.ret ?_; (conv => whnf); refine SLoad.on 2 rfl ?_; (conv => whnf)
            rw [if_neg (by simp)] at hf
            rw [← hd, ← hf]
            exact .v (le_setBox (le_new2 hls hb9) hb2) (.tup (.cons (weak_opK 0) (.cons (.refl _) .nil)))
        · have hge : j = fs.length := by omega
          subst hge
          rw [List.drop_length, fillR] at hf
          refine Xc_h ?_; (conv => whnf); refine Hid.seq ?_; refine Hid.seq ?_; refine Hid.reg ?_; (conv => whnf); refine Hid.cond rfl ?_
          skip
          refine SIf.n Ty.mixed (decide_eq_false (by rw [hws]; omega)) ?_; refine Xc_h ?_; (conv => whnf); refine Hid.exit ?_; (conv => whnf); refine Hid.seq ?_; refine Hid.reg ?_; (conv => whnf); refine SLoad.on 0 rfl ?_; (conv => whnf); refine SStore.on 1 rfl ?_; (conv => whnf); refine Hid.ret ?_; (conv => whnf); refine SLoad.on 1 rfl ?_; (conv => whnf)
          rw [← hd, ← hf]
          exact .p (le_setBox hls hb2) rfl
      · refine SIf.y Ty.mixed (by rw [hws, hns, decide_eq_false (by omega)]; rfl) ?_
        rw [if_neg hlen] at hd
        refine Xc_h ?_; (conv => whnf); refine Hid.seq ?_; refine Hid.reg ?_; (conv => whnf); refine SStore.on 1 rfl ?_; (conv => whnf); refine Hid.ret ?_; (conv => whnf); refine SLoad.on 1 rfl ?_; (conv => whnf)
        rw [← hd]
        exact .v (le_setBox (le_new2 hle hb7) hb2) (.tup (.cons (weak_opK 0) (.cons (.refl _) .nil)))
    · refine SIf.y Ty.mixed (by simp [hne]) ?_
      rw [if_neg hne] at hd
      refine Xc_h ?_; (conv => whnf); refine Hid.exit ?_; (conv => whnf); refine Hid.reg ?_; (conv => whnf); refine ⟨_, IntWalk.i64_in _ (by omega), ?_⟩; (conv => whnf)
      exact ⟨i + 1, by omega, by repeat (first | exact trivial | refine ⟨by first | trivial | exact Weak.refl _ | exact Weak.tok _ _ _ | exact Weak.of_eq (congrArg (AV.int _) (by omega)) | exact Weak.of_eq (congrArg AV.bool (by fail)) | exact Weak.nils _ _ (.inr rfl), ?_⟩), .refl _, hlt, hd, hle⟩
  · have hge : i = fl.length := by omega
    subst hge
    rw [List.drop_length, parseAt] at hd
    refine Xc_h ?_; (conv => whnf); refine Hid.seq ?_; refine Hid.seq ?_; refine Hid.reg ?_; (conv => whnf); refine Hid.cond rfl ?_
    skip
    refine SIf.n Ty.mixed (decide_eq_false (by rw [hln]; omega)) ?_; refine Xc_h ?_; (conv => whnf); refine Hid.exit ?_; (conv => whnf); refine Hid.seq ?_; refine Hid.reg ?_; (conv => whnf); refine SStore.on 0 rfl ?_; (conv => whnf); refine Hid.ret ?_; (conv => whnf); refine SLoad.on 0 rfl ?_; (conv => whnf)
    rw [← hd]
    exact .v (le_setBox hle hb2) (.tup (.cons (weak_opK 0) (.cons (.refl _) .nil)))
end Go.Proofs.YtjcikceophcooaaDoor
end
section
set_option linter.unusedVariables false
set_option linter.unusedSimpArgs false
set_option maxRecDepth 100000
set_option maxHeartbeats 4000000
namespace Go.Proofs.YtjcikceophcooaaDoor
open Go.Al Go.RowKit
structure RepV where
  err : Int
  n : Int
  list : List Msg
  data : List UInt8
def eRep (r : RepV) : AV := .agg [.int .u16 r.err, .int .i64 r.n, .slc 8 (r.list.map eMsg) .no, .slc 1 (aBytes r.data) .no]
def comT (l : List Int) : List UInt8 := l.flatMap fun n => Lib.itoa n ++ [44]
def showM (m : Msg) : List UInt8 := 32 :: (comT [m.seq, m.tries, m.until_, m.prio] ++ (quoteT m.body ++ [44] ++ quoteT m.attr ++ [44] ++ quoteT m.why))
def showD (d : List UInt8) : List UInt8 := if d = [] then [] else [32, 35] ++ d.flatMap hexT
def showT (r : RepV) : List UInt8 := if r.err ≠ 0 then [101, 114, 114, 32] ++ Lib.itoa r.err else [111, 107, 32] ++ Lib.itoa r.n ++ r.list.flatMap showM ++ showD r.data
def In64 (n : Int) : Prop := -9223372036854775808 ≤ n ∧ n ≤ 9223372036854775807
structure MsgS (m : Msg) : Prop where
  body : m.body.length ≤ 1048576
  attr : m.attr.length ≤ 1048576
  why : m.why.length ≤ 1048576
  seq : In64 m.seq
  tries : In64 m.tries
  unt : In64 m.until_
  prio : In64 m.prio
structure RepS (r : RepV) : Prop where
  err : 0 ≤ r.err ∧ r.err ≤ 65535
  n : In64 r.n
  len : r.list.length ≤ 1048576
  msgs : ∀ m ∈ r.list, MsgS m
  data : r.data.length ≤ 1048576
theorem comT_len : ∀ {l : List Int}, (∀ n ∈ l, In64 n) → (comT l).length ≤ 22 * l.length
  | [], _ => by simp [comT]
  | n :: l, h => by
    have h1 := itoa_len20 (h n (by simp))
    have h2 := comT_len (l := l) fun x hx => h x (by simp [hx])
    rw [comT, List.flatMap_cons, List.length_append, List.length_cons] 
    rw [comT] at h2
    simp only [List.length_append, List.length_singleton]
    omega
theorem MsgS.four {m : Msg} (h : MsgS m) : ∀ n ∈ [m.seq, m.tries, m.until_, m.prio], In64 n := by
  intro n hn
  simp only [List.mem_cons, List.not_mem_nil, or_false] at hn
  rcases hn with rfl | rfl | rfl | rfl
  · exact h.seq
  · exact h.tries
  · exact h.unt
  · exact h.prio
theorem showM_len {m : Msg} (h : MsgS m) : (showM m).length ≤ 9437300 := by
  have h1 := comT_len h.four
  have h2 := quoteT_len m.body
  have h3 := quoteT_len m.attr
  have h4 := quoteT_len m.why
  have h5 := h.body
  have h6 := h.attr
  have h7 := h.why
  simp only [List.length_cons, List.length_nil] at h1
  simp only [showM, List.length_cons, List.length_append, List.length_nil]
  omega
theorem shows_len : ∀ {l : List Msg}, (∀ m ∈ l, MsgS m) → (l.flatMap showM).length ≤ 9437300 * l.length
  | [], _ => by simp
  | m :: l, h => by
    have h1 := showM_len (h m (by simp))
    have h2 := shows_len (l := l) fun x hx => h x (by simp [hx])
    rw [List.flatMap_cons, List.length_append, List.length_cons]
    omega
theorem hexs_len : ∀ l : List UInt8, (l.flatMap hexT).length = 2 * l.length
  | [] => rfl
  | c :: l => by rw [List.flatMap_cons, List.length_append, hexs_len l, List.length_cons]; simp [hexT]; omega
theorem Bld.add {σ τ : St} {b c : Nat} {bs : List UInt8} {cs : List AV} (h : Bld σ τ b bs) (hc : τ.box c = none) : Bld (σ.setBox c cs) (τ.setBox c cs) b bs := by
  obtain ⟨ad, v, o, hb, had, hr, ho⟩ := h.here
  have hcb : b ≠ c := by rintro rfl; rw [hc] at hb; cases hb
  have hco : o ≠ some c := fun e => by
    rcases hr.go with ⟨_, _, h1⟩ | ⟨b0, _, _, _, h1, _, h3, _⟩
    · rw [e] at h1; cases h1
    · rw [e] at h1; cases h1; rw [hc] at h3; cases h3
  refine ⟨h.tag, by rw [setBox_ne hcb]; exact h.new, le_both h.le, ad, v, o, by rw [setBox_ne hcb]; exact hb, had, rowT_set hr hco, fun i e => ?_⟩
  rw [setBox_ne (fun e2 => hco (by rw [e, e2]))]
  exact ho i e
theorem Bld.less {σ' σ τ : St} {b : Nat} {bs : List UInt8} (h : Bld σ τ b bs) (hl : St.Le σ' σ) : Bld σ' τ b bs := by
  obtain ⟨ad, v, o, hb, had, hr, ho⟩ := h.here
  exact ⟨h.tag, le_none hl h.new, hl.trans h.le, ad, v, o, hb, had, hr, fun i e => le_none hl (ho i e)⟩
theorem Bld.none {σ τ : St} {b c : Nat} {bs : List UInt8} (h : Bld σ τ b bs) (hc : τ.box c = none) : σ.box c = none := le_none h.le hc
end Go.Proofs.YtjcikceophcooaaDoor
end
section
set_option linter.unusedVariables false
set_option linter.unusedSimpArgs false
set_option maxRecDepth 100000
set_option maxHeartbeats 4000000
namespace Go.Proofs.YtjcikceophcooaaDoor
open Go.Al Go.RowKit
theorem show_any (w0 : Base) (hL : Laid w0) (r : RepV) (hr : RepS r) : CallP Tryd.prog w0 12 [eRep r] (.str (showT r)) := by
  refine CallP.h Ty.tok Ty.mixed Tryd.func12 rfl Tryd.ntmps12 rfl (by simp) (by decide +kernel) fun σ => ?_
  obtain ⟨herr, hn, hlen, hmsgs, hdata⟩ := hr
  obtain ⟨err, n, l, d⟩ := r
  dsimp only at herr hn hlen hmsgs hdata
  have hi1 := itoa_any w0 hL err (by omega) (by omega)
  have hi2 := itoa_any w0 hL n hn.1 hn.2
  have hl1 := itoa_len20 (n := err) ⟨by omega, by omega⟩
  have hl2 := itoa_len20 (n := n) hn
  have hwr : IntKind.i64.wrap err = err := IntWalk.i64_in _ (by omega)
  by_cases he : err = 0
  · subst he
    rw [showT, if_neg (by simp)]
    (conv => whnf); refine Hid.seq ?_; refine Hid.reg ?_; (conv => whnf); refine SBox.f ?_; (conv => whnf); refine Hid.seq ?_; refine Hid.seq ?_; refine Hid.reg ?_; (conv => whnf); refine Hid.cond rfl ?_; refine SIf.n Ty.mixed (by exact rfl) ?_; refine Xc_h ?_; (conv => whnf); refine Hid.skip ?_; (conv => whnf); refine Hid.seq ?_; refine Hid.reg ?_; (conv => whnf)
    refine ⟨by decide, fun b3 ht3 hb3 => ?_⟩
    (conv => whnf); refine Hid.seq ?_; refine Hid.reg ?_; (conv => whnf); refine SCall.p (by exact hi2) ?_; (conv => whnf); refine And.intro (by simp only [List.length_cons, List.length_nil, List.length_append]; omega) ?_; (conv => whnf); refine SCall.w (writeString_any w0 (Bld.start ht3 hb3) ([111, 107, 32] ++ Lib.itoa n) (by simp) (by simp; omega)) rfl ?_; rintro r s ⟨rfl, hb⟩ hB
    refine ⟨_, Know.nil s, ?_⟩
    rw [List.nil_append] at hb
    (conv => whnf); refine Hid.seq ?_; refine Hid.seq ?_; refine Hid.reg ?_; (conv => whnf); refine Hid.block ?_; refine Hid.loop ?_
    skip
    obtain ⟨P, hP⟩ : ∃ P, P = [111, 107, 32] ++ Lib.itoa n := ⟨_, rfl⟩
    have hPl : P.length ≤ 24 := by rw [hP]; simp; omega
    rw [← hP] at hb ⊢
    clear hi1 hi2 hwr
    have hml : (l.map eMsg).length = l.length := by simp
    refine SLoop.by Ty.mixed (fun i : Nat => l.length - i) (fun i => [(1, .vp (eRep ⟨0, n, l, d⟩)), (3, .ptr b3 0), (24, .slc 8 (l.map eMsg) .no), (25, .int .i64 (l.map eMsg).length), (26, .int .i64 i)]) (fun _ => []) (fun i τ => i ≤ l.length ∧ Bld σ τ b3 (P ++ (l.take i).flatMap showM)) 0 ⟨by repeat (first | exact trivial | refine ⟨by first | trivial | exact Weak.refl _ | exact Weak.tok _ _ _ | exact Weak.of_eq (congrArg (AV.int _) (by omega)) | exact Weak.of_eq (congrArg AV.bool (by fail)) | exact Weak.nils _ _ (.inr rfl), ?_⟩), .none _, Nat.zero_le _, by simpa using hb⟩ ?_
    clear hb hB; rintro i τ ⟨hi, hb⟩
    have hsl := shows_len (l := l.take i) fun m hm => hmsgs m (List.mem_of_mem_take hm)
    have htl : (l.take i).length ≤ 1048576 := by rw [List.length_take]; omega
    by_cases hlt : i < l.length
    · have ga : (l.map eMsg)[i]? = some (eMsg l[i]) := by simp [hlt]
      have hm := hmsgs _ (List.getElem_mem hlt)
      have htk : (l.take (i + 1)).flatMap showM = (l.take i).flatMap showM ++ showM l[i] := by
        rw [List.take_succ_eq_append_getElem hlt, List.flatMap_append]; simp
      obtain ⟨Q, hQ⟩ : ∃ Q, Q = P ++ (l.take i).flatMap showM := ⟨_, rfl⟩
      have hQl : Q.length ≤ 10000000000000 := by rw [hQ, List.length_append]; omega
      rw [← hQ] at hb
      rw [showM] at htk
      generalize l[i] = m at *
      refine Xc_h ?_; (conv => whnf); refine Hid.seq ?_; refine Hid.reg ?_; (conv => whnf); refine Hid.seq ?_; refine Hid.cond rfl ?_
      skip
      refine SIf.y Ty.mixed (decide_eq_true (by rw [hml]; omega)) ?_; refine Xc_h ?_; (conv => whnf); refine Hid.skip ?_; (conv => whnf); refine Hid.seq ?_; refine Hid.seq ?_; refine Hid.reg ?_; (conv => whnf)
      refine ⟨_, ⟨by first | omega | (simp only [List.length_cons, List.length_nil, List.length_append]; omega) | fail, by exact ga⟩, ?_⟩
      (conv => whnf); intro b5 hb5; (conv => whnf); refine SStore.on 0 rfl ?_; (conv => whnf); refine Hid.seq ?_; refine Hid.reg ?_; (conv => whnf)
      have h5n := hb.none hb5
      have hb' := hb.add (cs := (eMsg m).cells) hb5
      refine SCall.w (writeByte_any w0 (σ := σ.setBox b5 (eMsg m).cells) (by rw [setBox_setBox]; exact hb') 32 (by omega)) rfl ?_; rintro r s' ⟨rfl, hb2⟩ hB
      have h5 := hb2.le.box b5 _ setBox_same
      refine ⟨[(b5, (eMsg m).cells)], (Know.nil s').add h5 (by simp), ?_⟩; (conv => whnf); refine Hid.seq ?_; refine Hid.seq ?_; refine Hid.reg ?_; (conv => whnf); refine SLoad.on 0 rfl ?_; (conv => whnf); refine SLoad.on 0 rfl ?_; (conv => whnf); refine SLoad.on 0 rfl ?_; (conv => whnf); refine SLoad.on 0 rfl ?_; (conv => whnf); refine Hid.block ?_; refine Hid.loop ?_
      refine SLoop.by Ty.mixed (fun j : Nat => 4 - j) (fun j => [(1, .vp (eRep ⟨0, n, l, d⟩)), (3, .ptr b3 0), (5, .ptr b5 0), (24, .slc 8 (l.map eMsg) .no), (25, .int .i64 (l.map eMsg).length), (26, .int .i64 i), (39, .agg [.int .i64 m.seq, .int .i64 m.tries, .int .i64 m.until_, .int .i64 m.prio]), (40, .int .i64 j)]) (fun _ => [(b5, (eMsg m).cells)]) (fun j s => j ≤ 4 ∧ Bld (σ.setBox b5 (eMsg m).cells) s b3 (Q ++ [32] ++ comT ([m.seq, m.tries, m.until_, m.prio].take j))) 0 ⟨by repeat (first | exact trivial | refine ⟨by first | trivial | exact Weak.refl _ | exact Weak.tok _ _ _ | exact Weak.of_eq (congrArg (AV.int _) (by omega)) | exact Weak.of_eq (congrArg AV.bool (by fail)) | exact Weak.nils _ _ (.inr rfl), ?_⟩), .refl _, Nat.zero_le _, by simpa [comT] using hb2⟩ ?_
      clear hb hb' hb2 h5 hB; rintro j s ⟨hj, hb⟩
      by_cases hj4 : j < 4
      · obtain ⟨x, hx, hx64, hct⟩ : ∃ x, [AV.int .i64 m.seq, .int .i64 m.tries, .int .i64 m.until_, .int .i64 m.prio][((j : Int)).toNat * 1]? = some (.int .i64 x) ∧ In64 x ∧ comT ([m.seq, m.tries, m.until_, m.prio].take (j + 1)) = comT ([m.seq, m.tries, m.until_, m.prio].take j) ++ (Lib.itoa x ++ [44]) := by
          have hj' : j = 0 ∨ j = 1 ∨ j = 2 ∨ j = 3 := by omega
          rcases hj' with rfl | rfl | rfl | rfl
          · exact ⟨_, rfl, hm.seq, by simp [comT]⟩
          · exact ⟨_, rfl, hm.tries, by simp [comT]⟩
          · exact ⟨_, rfl, hm.unt, by simp [comT]⟩
          · exact ⟨_, rfl, hm.prio, by simp [comT]⟩
        have hcl : (comT ([m.seq, m.tries, m.until_, m.prio].take j)).length ≤ 88 := by
          have h1 := comT_len (l := [m.seq, m.tries, m.until_, m.prio].take j) fun x hx => hm.four x (List.mem_of_mem_take hx)
          rw [List.length_take] at h1
          simp only [List.length_cons, List.length_nil] at h1
          omega
        have hxl := itoa_len20 hx64
        refine Xc_h ?_; (conv => whnf); refine Hid.seq ?_; refine Hid.reg ?_; (conv => whnf); refine Hid.seq ?_; refine Hid.cond rfl ?_
        skip
        refine SIf.y Ty.mixed (decide_eq_true (by omega)) ?_; refine Xc_h ?_; (conv => whnf); refine Hid.skip ?_; (conv => whnf); refine Hid.seq ?_; refine Hid.seq ?_; refine Hid.reg ?_; (conv => whnf); refine And.intro (by omega) ?_; (conv => whnf); refine ⟨_, hx, ?_⟩; (conv => whnf); refine Hid.reg ?_; (conv => whnf); refine SCall.p (by exact itoa_any w0 hL x hx64.1 hx64.2) ?_; (conv => whnf)
        refine And.intro (by simp only [List.length_cons, List.length_nil, List.length_append]; omega) ?_; (conv => whnf); refine SCall.w (writeString_any w0 hb (Lib.itoa x ++ [44]) (by simp) (by simp only [List.length_append, List.length_cons, List.length_nil]; omega)) rfl ?_; rintro r s2 ⟨rfl, hb2⟩ hB; refine ⟨[(b5, (eMsg m).cells)], (Know.nil s2).add (hb2.le.box b5 _ setBox_same) (by simp), ?_⟩
        (conv => whnf); refine Hid.reg ?_; (conv => whnf); refine ⟨_, IntWalk.i64_in _ (by omega), ?_⟩; (conv => whnf)
        exact ⟨j + 1, by omega, by repeat (first | exact trivial | refine ⟨by first | trivial | exact Weak.refl _ | exact Weak.tok _ _ _ | exact Weak.of_eq (congrArg (AV.int _) (by omega)) | exact Weak.of_eq (congrArg AV.bool (by fail)) | exact Weak.nils _ _ (.inr rfl), ?_⟩), .refl _, hj4, by rw [hct, ← List.append_assoc]; exact hb2⟩
      · have hje : j = 4 := by omega
        subst hje
        have hq1 := quoteT_len m.body
        have hq2 := quoteT_len m.attr
        have hq3 := quoteT_len m.why
        have hm1 := hm.body
        have hm2 := hm.attr
        have hm3 := hm.why
        have hcl := comT_len hm.four
        simp only [List.length_cons, List.length_nil] at hcl
        rw [show [m.seq, m.tries, m.until_, m.prio].take 4 = [m.seq, m.tries, m.until_, m.prio] from rfl] at hb
        refine Xc_h ?_; (conv => whnf); refine Hid.seq ?_; refine Hid.reg ?_; (conv => whnf); refine Hid.seq ?_; refine Hid.cond rfl ?_; refine SIf.n Ty.mixed (by exact rfl) ?_; refine Xc_h ?_; (conv => whnf); refine Hid.exit ?_; (conv => whnf); refine Hid.regD ?_; refine SReg.d [0, 4, 9, 1, 2, 3, 5, 6, 7, 8, 10, 11, 12, 13] [0, 1, 0, 0, 0, 1, 0, 0, 0, 0, 1, 0, 0, 2] (by decide +kernel) ?_; (conv => whnf); (conv => whnf)
        refine SLoad.on 0 rfl ?_; (conv => whnf); refine SCall.p (by exact quote_any w0 m.body (by omega)) ?_; (conv => whnf); refine And.intro (by simp only [List.length_cons, List.length_nil, List.length_append]; omega) ?_; (conv => whnf); refine SLoad.on 0 rfl ?_; (conv => whnf); refine SCall.p (by exact quote_any w0 m.attr (by omega)) ?_; (conv => whnf)
        refine And.intro (by simp only [List.length_cons, List.length_nil, List.length_append]; omega) ?_; (conv => whnf); refine And.intro (by simp only [List.length_cons, List.length_nil, List.length_append]; omega) ?_; (conv => whnf); refine SLoad.on 0 rfl ?_; (conv => whnf); refine SCall.p (by exact quote_any w0 m.why (by omega)) ?_; (conv => whnf)
        refine And.intro (by simp only [List.length_cons, List.length_nil, List.length_append]; omega) ?_; (conv => whnf); refine SCall.w (writeString_any w0 hb (quoteT m.body ++ [44] ++ quoteT m.attr ++ [44] ++ quoteT m.why) (by simp) (by simp only [List.length_append, List.length_cons, List.length_nil]; omega)) rfl ?_; rintro r s2 ⟨rfl, hb2⟩ hB; refine ⟨_, Know.nil s2, ?_⟩; (conv => whnf)
        refine Hid.reg ?_; (conv => whnf); refine ⟨_, IntWalk.i64_in _ (by omega), ?_⟩; (conv => whnf)
        refine ⟨i + 1, by omega, by repeat (first | exact trivial | refine ⟨by first | trivial | exact Weak.refl _ | exact Weak.tok _ _ _ | exact Weak.of_eq (congrArg (AV.int _) (by omega)) | exact Weak.of_eq (congrArg AV.bool (by fail)) | exact Weak.nils _ _ (.inr rfl), ?_⟩), .none _, hlt, ?_⟩
        have hb3' := hb2.less (le_setBox (cs := (eMsg m).cells) (.refl σ) h5n)
        have e : Q ++ [32] ++ comT [m.seq, m.tries, m.until_, m.prio] ++ (quoteT m.body ++ [44] ++ quoteT m.attr ++ [44] ++ quoteT m.why) = P ++ (l.take (i + 1)).flatMap showM := by
          rw [htk, hQ]; simp [List.append_assoc]
        rw [← e]
        exact hb3'
    · have hge : i = l.length := by omega
      subst hge
      rw [List.take_length] at hb hsl
      obtain ⟨R, hR⟩ : ∃ R, R = P ++ l.flatMap showM := ⟨_, rfl⟩
      have hRl : R.length ≤ 10000000000000 := by rw [hR, List.length_append]; omega
      rw [← hR] at hb ⊢
      refine Xc_h ?_; (conv => whnf); refine Hid.seq ?_; refine Hid.reg ?_; (conv => whnf); refine Hid.seq ?_; refine Hid.cond rfl ?_
      skip
      refine SIf.n Ty.mixed (decide_eq_false (by rw [hml]; omega)) ?_; refine Xc_h ?_; (conv => whnf); refine Hid.exit ?_; (conv => whnf); refine Hid.seq ?_; refine Hid.seq ?_; refine Hid.reg ?_; (conv => whnf); refine Hid.block ?_; refine Hid.loop ?_
      skip
      have hdl : (aBytes d).length = d.length := bytes_len d
      refine SLoop.by Ty.mixed (fun i : Nat => d.length - i) (fun i => [(3, .ptr b3 0), (64, .slc 1 (aBytes d) .no), (65, .int .i64 (aBytes d).length), (66, .int .i64 i)]) (fun _ => []) (fun i s => i ≤ d.length ∧ Bld σ s b3 (R ++ showD (d.take i))) 0 ⟨by repeat (first | exact trivial | refine ⟨by first | trivial | exact Weak.refl _ | exact Weak.tok _ _ _ | exact Weak.of_eq (congrArg (AV.int _) (by omega)) | exact Weak.of_eq (congrArg AV.bool (by fail)) | exact Weak.nils _ _ (.inr rfl), ?_⟩), .none _, Nat.zero_le _, by simpa [showD] using hb⟩ ?_
      clear hb; rintro i s ⟨hi, hb⟩
      by_cases hlt : i < d.length
      · have gc : (aBytes d)[i]? = some (.int .u8 d[i].toNat) := by simp [aBytes, aByte, hlt]
        have hx2 := hexs_len (d.take i)
        have htl2 : (d.take i).length = i := by rw [List.length_take]; omega
        have hdx : (d.take (i + 1)).flatMap hexT = (d.take i).flatMap hexT ++ hexT d[i] := by
          rw [List.take_succ_eq_append_getElem hlt, List.flatMap_append]; simp
        have hne1 : d.take (i + 1) ≠ [] := fun e => by
          have h1 : (d.take (i + 1)).length = i + 1 := by rw [List.length_take]; omega
          rw [e] at h1
          simp at h1
        have hs1 : showD (d.take (i + 1)) = [32, 35] ++ (d.take (i + 1)).flatMap hexT := by rw [showD, if_neg hne1]
        rw [hdx] at hs1
        generalize d[i] = c at *
        by_cases hi0 : i = 0
        · subst hi0
          rw [List.take_zero] at hb hs1
          rw [showD, if_pos rfl, List.append_nil] at hb
          refine Xc_h ?_; (conv => whnf); refine Hid.seq ?_; refine Hid.reg ?_; (conv => whnf); refine Hid.seq ?_; refine Hid.cond rfl ?_
          skip
          refine SIf.y Ty.mixed (decide_eq_true (by rw [hdl]; omega)) ?_; refine Xc_h ?_; (conv => whnf); refine Hid.skip ?_; (conv => whnf); refine Hid.seq ?_; refine Hid.seq ?_; refine Hid.reg ?_; (conv => whnf)
          refine ⟨_, ⟨by first | omega | (simp only [List.length_cons, List.length_nil, List.length_append]; omega) | fail, by exact gc⟩, ?_⟩
          (conv => whnf); refine Hid.seq ?_; refine Hid.seq ?_; refine Hid.reg ?_; (conv => whnf); refine Hid.cond rfl ?_; refine SIf.y Ty.mixed (by exact rfl) ?_; refine Xc_h ?_; (conv => whnf); refine Hid.reg ?_; (conv => whnf); refine SCall.w (writeString_any w0 hb [32, 35] (by simp) (by simp; omega)) rfl ?_; rintro r s2 ⟨rfl, hb2⟩ hB; refine ⟨_, Know.nil s2, ?_⟩; (conv => whnf)
          refine Hid.reg ?_; (conv => whnf); refine SCall.p (by exact hex_any w0 c) ?_; (conv => whnf); refine SCall.w (writeString_any w0 hb2 (hexT c) (by simp [hexT]) (by simp [hexT]; omega)) rfl ?_; rintro r s3 ⟨rfl, hb3⟩ hB; refine ⟨_, Know.nil s3, ?_⟩; (conv => whnf); refine Hid.reg ?_; (conv => whnf); refine ⟨_, IntWalk.i64_in _ (by omega), ?_⟩; (conv => whnf)
          exact ⟨0 + 1, by omega, by repeat (first | exact trivial | refine ⟨by first | trivial | exact Weak.refl _ | exact Weak.tok _ _ _ | exact Weak.of_eq (congrArg (AV.int _) (by omega)) | exact Weak.of_eq (congrArg AV.bool (by fail)) | exact Weak.nils _ _ (.inr rfl), ?_⟩), .none _, hlt, by rw [hs1]; simpa using hb3⟩
        · have hne0 : d.take i ≠ [] := fun e => by
            have := congrArg List.length e
            rw [htl2] at this
            simp at this
            omega
          rw [showD, if_neg hne0] at hb
          have d0 : decide ((i : Int) = 0) = false := decide_eq_false (by omega)
          refine Xc_h ?_; (conv => whnf); refine Hid.seq ?_; refine Hid.reg ?_; (conv => whnf); refine Hid.seq ?_; refine Hid.cond rfl ?_
          skip
          refine SIf.y Ty.mixed (decide_eq_true (by rw [hdl]; omega)) ?_; refine Xc_h ?_; (conv => whnf); refine Hid.skip ?_; (conv => whnf); refine Hid.seq ?_; refine Hid.seq ?_; refine Hid.reg ?_; (conv => whnf)
          refine ⟨_, ⟨by first | omega | (simp only [List.length_cons, List.length_nil, List.length_append]; omega) | fail, by exact gc⟩, ?_⟩
          (conv => whnf); refine Hid.seq ?_; refine Hid.seq ?_; refine Hid.reg ?_; (conv => whnf); refine Hid.cond rfl ?_; refine SIf.n Ty.mixed (by assumption) ?_; refine Xc_h ?_; (conv => whnf); refine Hid.skip ?_; (conv => whnf); refine Hid.reg ?_; (conv => whnf); refine SCall.p (by exact hex_any w0 c) ?_; (conv => whnf)
          refine SCall.w (writeString_any w0 hb (hexT c) (by simp [hexT]) (by simp only [List.length_append, List.length_cons, List.length_nil, hexT]; omega)) rfl ?_; rintro r s3 ⟨rfl, hb3⟩ hB; refine ⟨_, Know.nil s3, ?_⟩; (conv => whnf); refine Hid.reg ?_; (conv => whnf); refine ⟨_, IntWalk.i64_in _ (by omega), ?_⟩; (conv => whnf)
          exact ⟨i + 1, by omega, by repeat (first | exact trivial | refine ⟨by first | trivial | exact Weak.refl _ | exact Weak.tok _ _ _ | exact Weak.of_eq (congrArg (AV.int _) (by omega)) | exact Weak.of_eq (congrArg AV.bool (by fail)) | exact Weak.nils _ _ (.inr rfl), ?_⟩), .none _, hlt, by rw [hs1]; simpa using hb3⟩
      · have hge : i = d.length := by omega
        subst hge
        rw [List.take_length] at hb
        have hsd : (showD d).length ≤ 2097154 := by
          have := hexs_len d
          rw [showD]
          split
          · simp
          · rw [List.length_append, this]; simp; omega
        refine Xc_h ?_; (conv => whnf); refine Hid.seq ?_; refine Hid.reg ?_; (conv => whnf); refine Hid.seq ?_; refine Hid.cond rfl ?_
        skip
        refine SIf.n Ty.mixed (decide_eq_false (by rw [hdl]; omega)) ?_; refine Xc_h ?_; (conv => whnf); refine Hid.exit ?_; (conv => whnf); refine Hid.seq ?_; refine Hid.reg ?_; (conv => whnf)
        skip
        refine SCall.w (string_any w0 hb (by rw [List.length_append]; omega)) rfl ?_; rintro r s2 ⟨rfl, hle⟩ hB; refine ⟨_, Know.nil s2, ?_⟩; (conv => whnf); refine Hid.ret ?_; (conv => whnf)
        skip
        exact .p hle rfl
  · rw [showT, if_pos he]
    (conv => whnf); refine Hid.seq ?_; refine Hid.reg ?_; (conv => whnf); refine SBox.f ?_; (conv => whnf); refine Hid.seq ?_; refine Hid.seq ?_; refine Hid.reg ?_; (conv => whnf); refine Hid.cond rfl ?_; refine SIf.y Ty.mixed (by simp [he]) ?_; refine Xc_h ?_; (conv => whnf); refine Hid.seq ?_; refine Hid.reg ?_; (conv => whnf); refine ⟨_, hwr, ?_⟩; (conv => whnf); refine SCall.p (by exact hi1) ?_
    (conv => whnf); refine And.intro (by simp only [List.length_cons, List.length_nil, List.length_append]; omega) ?_; (conv => whnf); refine Hid.ret ?_; (conv => whnf); exact .p (.refl _) rfl
end Go.Proofs.YtjcikceophcooaaDoor
end
section
set_option linter.unusedVariables false
set_option linter.unusedSimpArgs false
set_option maxRecDepth 100000
set_option maxHeartbeats 4000000
namespace Go.Proofs.YtjcikceophcooaaDoor
open Go.Al Go.RowKit
theorem itoa_one {n : Nat} (h : n < 10) : Lib.itoa (n : Int) = [UInt8.ofNat (48 + n)] := by rw [Lib.itoa_nonneg, Lib.decDigits_one h]
theorem num_one {n : Nat} (h : n < 10) : goAtoi [UInt8.ofNat (48 + n)] = ((n : Int), true) ∧ numOk [UInt8.ofNat (48 + n)] = true := by
  have := num_itoa (n := (n : Int)) ⟨by omega, by omega⟩
  rwa [itoa_one h] at this
theorem parse_fetch : parseT [102, 101, 116, 99, 104, 32, 49, 32, 53] = (⟨4, 1, 5, 0, [], [], [], [], [], []⟩, 0) := by
  have h1 := num_one (n := 1) (by decide)
  have h5 := num_one (n := 5) (by decide)
  have e : pcs 32 [102, 101, 116, 99, 104, 32, 49, 32, 53] = [[102, 101, 116, 99, 104], [49], [53]] := by decide
  rw [parseT, e]
  show parseAt formsL 0 _ _ = _
  have e2 : parseAt formsL 0 [102, 101, 116, 99, 104] [[49], [53]] = fillR (opK 4) [6, 7] [[49], [53]] := rfl
  rw [e2, fillR, fillR, fillR]
  have g1 : goAtoi [49] = (1, true) := h1.1
  have g2 : numOk [49] = true := h1.2
  have g3 : goAtoi [53] = (5, true) := h5.1
  have g4 : numOk [53] = true := h5.2
  simp only [setF, g1, g2, g3, g4, if_true]
  rfl
theorem show_zero : showT ⟨0, 0, [], []⟩ = [111, 107, 32, 48] := by
  have : Lib.itoa 0 = [48] := itoa_one (n := 0) (by decide)
  simp [showT, this, showD]
theorem known22_any (w0 : Base) (hL : Laid w0) : CallP Tryd.prog w0 8 [] (.bool true) := by
  have hu : CallP Tryd.prog w0 19 [.str [97, 37, 50, 48, 98]] (.tup [.str [97, 32, 98], .bool true]) := unquote_any w0 [97, 37, 50, 48, 98] (by decide)
  have hp := parse_any w0 hL [102, 101, 116, 99, 104, 32, 49, 32, 53] (by decide)
  rw [parse_fetch] at hp
  have hq : CallP Tryd.prog w0 10 [.str [97, 32, 98]] (.str [97, 37, 50, 48, 98]) := quote_any w0 [97, 32, 98] (by decide)
  have hs : CallP Tryd.prog w0 12 [.agg [.int .u16 0, .int .i64 0, .nils, .nils]] (.str [111, 107, 32, 48]) := fun σ => by
    have := show_any w0 hL ⟨0, 0, [], []⟩ ⟨⟨by decide, by decide⟩, ⟨by decide, by decide⟩, by decide, (fun m hm => by cases hm), by decide⟩ σ
    rw [show_zero] at this
    exact this.weaken (.cons (.agg (.cons (.refl _) (.cons (.refl _) (.cons (.nils 8 .no (.inl rfl)) (.cons (.nils 1 .no (.inl rfl)) .nil)))) (by simp [AV.one])) .nil)
  refine CallP.h Ty.tok Ty.mixed Tryd.func8 rfl Tryd.ntmps8 rfl (by simp) (by decide +kernel) fun σ => ?_
  (conv => whnf); refine Hid.seq ?_; refine Hid.reg ?_; (conv => whnf); refine Hid.seq ?_; refine Hid.reg ?_; (conv => whnf); refine SCall.p (by exact hu) ?_; (conv => whnf); refine Hid.seq ?_; refine Hid.reg ?_; (conv => whnf); refine SCall.p (by exact hp) ?_; (conv => whnf); intro b3 hb3; (conv => whnf); refine SStore.on 0 rfl ?_; (conv => whnf); refine Hid.seq ?_; refine Hid.reg ?_
  (conv => whnf); refine SCall.p (by exact hq) ?_; (conv => whnf); refine SCond.y (by exact rfl) ?_; (conv => whnf); refine SPick.y (by exact rfl) ?_; (conv => whnf); refine SCond.y (by exact rfl) ?_; (conv => whnf); refine SCond.y (by exact rfl) ?_; (conv => whnf); refine SPick.y (by exact rfl) ?_; (conv => whnf); refine SCond.y (by exact rfl) ?_; (conv => whnf); refine SCond.y (by exact rfl) ?_
  (conv => whnf); refine SCall.p (by exact hs) ?_; (conv => whnf); refine SCond.y (by exact rfl) ?_; (conv => whnf); refine SPick.y (by exact rfl) ?_; (conv => whnf); refine SCond.y (by exact rfl) ?_; (conv => whnf); refine SCond.y (by exact rfl) ?_; (conv => whnf); refine SPick.y (by exact rfl) ?_; (conv => whnf); refine SCond.y (by exact rfl) ?_; (conv => whnf); refine SCond.y (by exact rfl) ?_
  (conv => whnf); refine SLoad.on 0 rfl ?_; (conv => whnf); refine SCond.y (by exact rfl) ?_; (conv => whnf); refine SPick.y (by exact rfl) ?_; (conv => whnf); refine SCond.y (by exact rfl) ?_; (conv => whnf); refine SCond.y (by exact rfl) ?_; (conv => whnf); refine SLoad.on 0 rfl ?_; (conv => whnf); refine SCond.y (by exact rfl) ?_; (conv => whnf); refine SPick.y (by exact rfl) ?_; (conv => whnf)
  refine SCond.y (by exact rfl) ?_; (conv => whnf); refine SCond.y (by exact rfl) ?_; (conv => whnf); refine SLoad.on 0 rfl ?_; (conv => whnf); refine SCond.y (by exact rfl) ?_; (conv => whnf); refine SPick.y (by exact rfl) ?_; (conv => whnf); refine Hid.ret ?_; (conv => whnf); exact .p (le_new2 (.refl _) hb3) rfl
end Go.Proofs.YtjcikceophcooaaDoor
end
section
set_option linter.unusedVariables false
set_option linter.unusedSimpArgs false
set_option maxRecDepth 100000
namespace Go.Proofs.YtjcikceophcooaaDoor
open Go.Al Go.RowKit
theorem join_snoc (n : List UInt8) (ws : List (List UInt8)) (x : List UInt8) (c : UInt8) : Lib.join (n :: ws) [c] ++ c :: x = Lib.join (n :: (ws ++ [x])) [c] := by
  rw [Lib.join_cons, Lib.join_cons]
  simp [Lib.joinTail]
def wd (f : Nat) : List UInt8 := if f ≤ 5 then [37] else [48]
end Go.Proofs.YtjcikceophcooaaDoor
end
section
set_option linter.unusedVariables false
set_option linter.unusedSimpArgs false
set_option maxRecDepth 100000
namespace Go.Proofs.YtjcikceophcooaaDoor
open Go.Al Go.RowKit
section
variable {H : Type} {enc : TypeId × Value → H} {W : World}
def I64 (n : Int) : Prop := -9223372036854775808 ≤ n ∧ n ≤ 9223372036854775807
theorem int_in (n : Int) (h : (Lit.int .i64 n).wf = true) : I64 n := by simpa [I64, Lit.wf, IntKind.min, IntKind.max, IntKind.signed, IntKind.bits] using h
theorem Opens.mapQ {P : Program} {t : TypeId} {k : Nat} {α β : Type} {mk : α → List AV} {mk' : β → List AV} {Q : α → Prop} {Q' : β → Prop} (h : Opens enc P W t k mk Q) (g : α → β) (h1 : ∀ y, Q y → mk' (g y) = mk y) (h2 : ∀ y, Q y → Q' (g y)) (hl : ∀ z, (mk' z).length = k ∧ ∀ c ∈ mk' z, c.one = true) : Opens enc P W t k mk' Q' :=
  ⟨h.size, hl, fun fuel cs x hx hw => by
    obtain ⟨y, q, r⟩ := h.go fuel cs x hx hw
    exact ⟨g y, h2 y q, by rw [h1 y q]; exact r⟩⟩
theorem opens_u8 : Opens enc Tryd.prog W 5 1 (fun b : UInt8 => [AV.int .u8 b.toNat]) (fun _ => True) :=
  Opens.mapQ (Opens.int (Q := fun n => 0 ≤ n ∧ n ≤ 255) Tryd.underlying5 (by kernel_rfl) fun n h => by simpa [Lit.wf, IntKind.min, IntKind.max, IntKind.signed, IntKind.bits] using h)
    (fun n => UInt8.ofNat n.toNat) (fun n h => by
      have : ((UInt8.ofNat n.toNat).toNat : Int) = n := by simp; omega
      rw [this]) (fun _ _ => trivial) (fun z => ⟨rfl, fun c hc => by simp at hc; subst hc; rfl⟩)
structure OpIn (o : OpV) : Prop where
  kind : I64 o.kind
  sub : I64 o.sub
  n : I64 o.n
  seq : I64 o.seq
  name : o.name.length ≤ 1000000000000000
  topic : o.topic.length ≤ 1000000000000000
  want : o.want.length ≤ 1000000000000000
  body : o.body.length ≤ 1000000000000000
  attr : o.attr.length ≤ 1000000000000000
  data : o.data.length ≤ 1000000000000000
theorem eOp_lay (o : OpV) : (eOp o).cells.length = 10 ∧ ∀ c ∈ (eOp o).cells, c.one = true := ⟨rfl, fun c hc => by
  simp only [eOp, oC, AV.cells, List.mem_cons, List.not_mem_nil, or_false] at hc
  rcases hc with rfl | rfl | rfl | rfl | rfl | rfl | rfl | rfl | rfl | rfl <;> rfl⟩
theorem opens_op : Opens enc Tryd.prog W 37 10 (fun o : OpV => (eOp o).cells) OpIn :=
  (Opens.struct (.cons rfl (Opens.int (Q := I64) Tryd.underlying3 (by kernel_rfl) int_in) (.cons rfl (Opens.int (Q := I64) Tryd.underlying3 (by kernel_rfl) int_in) (.cons rfl (Opens.int (Q := I64) Tryd.underlying3 (by kernel_rfl) int_in) (.cons rfl (Opens.int (Q := I64) Tryd.underlying3 (by kernel_rfl) int_in)
    (.cons rfl (Opens.str Tryd.underlying9 (by kernel_rfl)) (.cons rfl (Opens.str Tryd.underlying9 (by kernel_rfl)) (.cons rfl (Opens.str Tryd.underlying9 (by kernel_rfl)) (.cons rfl (Opens.str Tryd.underlying9 (by kernel_rfl)) (.cons rfl (Opens.str Tryd.underlying9 (by kernel_rfl))
    (.cons rfl (Opens.slice 1 opens_u8 (fun b : UInt8 => AV.int .u8 b.toNat) (fun _ => rfl) (by decide) Tryd.underlying26 (by kernel_rfl) (by kernel_rfl)) .nil)))))))))) Tryd.underlying37 (by kernel_rfl)).map
    (fun (a, b, c, d, e, f, g, h, i, j, _) => (⟨a, b, c, d, e, f, g, h, i, j⟩ : OpV)) (fun _ => rfl) (fun y h => ⟨h.1, h.2.1, h.2.2.1, h.2.2.2.1, h.2.2.2.2.1, h.2.2.2.2.2.1, h.2.2.2.2.2.2.1, h.2.2.2.2.2.2.2.1, h.2.2.2.2.2.2.2.2.1, Nat.le_trans (Nat.le_of_eq (Nat.mul_one _).symm) (Nat.le_trans h.2.2.2.2.2.2.2.2.2.1.1 (by decide))⟩) eOp_lay
end
end Go.Proofs.YtjcikceophcooaaDoor
end
