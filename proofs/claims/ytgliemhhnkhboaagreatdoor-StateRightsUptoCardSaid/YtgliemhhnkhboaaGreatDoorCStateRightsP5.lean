/- The law StateRights returns true for every input, and its arguments read as before: the tied card. No conditions. This is part 5 of 7 of its proof; the parts are read in order. No conditions. -/
import Derived.Test.YtgliemhhnkhboaaGreatDoorCStateRightsP4
import Derived.ProofKit
import Derived.Test.YtgliemhhnkhboaaGreatDoorRows
section
set_option linter.unusedVariables false
set_option linter.unusedSimpArgs false
set_option maxRecDepth 100000
set_option maxHeartbeats 1000000
namespace Go.Proofs.YtgliemhhnkhboaaGreatDoor
open Go.Al Go.RowKit
def cutIs (c : UInt8) (s : List UInt8) : Bool := decide (0 ≤ Lib.indexByte s c)
def cutA (c : UInt8) (s : List UInt8) : List UInt8 := if 0 ≤ Lib.indexByte s c then s.take (Lib.indexByte s c).toNat else s
def cutB (c : UInt8) (s : List UInt8) : List UInt8 := if 0 ≤ Lib.indexByte s c then s.drop ((Lib.indexByte s c).toNat + 1) else []
theorem cut_any (w0 : Base) (s : List UInt8) (c : UInt8) (hs : s.length ≤ 1000000000) : CallP Tryz.prog w0 98 [.str s, .str [c]] (.tup [.str (cutA c s), .str (cutB c s), .bool (cutIs c s)]) := by
  have inner : CallP Tryz.prog w0 113 [.str s, .str [c]] (.tup [.str (cutA c s), .str (cutB c s), .bool (cutIs c s)]) := by
    refine CallP.h Ty.tok Ty.mixed Tryz.func113 rfl Tryz.ntmps113 rfl (by simp) (by decide +kernel) fun σ => ?_
    have hi := idx_any w0 s c
    rcases ix_cases c s with ⟨hix, _⟩ | ⟨i, hix, hil, _⟩
    · have e1 : cutA c s = s := by rw [cutA, hix]; rfl
      have e2 : cutB c s = [] := by rw [cutB, hix]; rfl
      have e3 : cutIs c s = false := by rw [cutIs, hix]; rfl
      rw [e1, e2, e3]
      rw [hix] at hi
      (conv => whnf); refine Hid.seq ?_; refine Hid.reg ?_; (conv => whnf); refine Hid.seq ?_; refine Hid.seq ?_; refine Hid.reg ?_; (conv => whnf); refine SCall.p (by exact hi) ?_; (conv => whnf); refine Hid.seq ?_; refine Hid.reg ?_; (conv => whnf); refine Hid.cond rfl ?_; refine SIf.n Ty.mixed (by exact rfl) ?_; refine Xc_h ?_; (conv => whnf); refine Hid.skip ?_; (conv => whnf)
      refine Hid.seq ?_; refine Hid.reg ?_; (conv => whnf); refine Hid.ret ?_; (conv => whnf); exact .p (.refl _) rfl
    · have e1 : cutA c s = s.take i := by rw [cutA, hix, if_pos (by omega)]; rfl
      have e2 : cutB c s = s.drop (i + 1) := by rw [cutB, hix, if_pos (by omega)]; rfl
      have e3 : cutIs c s = true := by rw [cutIs, hix]; exact decide_eq_true (by omega)
      rw [e1, e2, e3]
      rw [hix] at hi
      clear e1 e2 e3; (conv => whnf); refine Hid.seq ?_; refine Hid.reg ?_; (conv => whnf); refine Hid.seq ?_; refine Hid.seq ?_; refine Hid.reg ?_; (conv => whnf); refine SCall.p (by exact hi) ?_; (conv => whnf); refine Hid.seq ?_; refine Hid.reg ?_; (conv => whnf); refine Hid.cond rfl ?_; refine SIf.y Ty.mixed (by exact rfl) ?_; refine Xc_h ?_; (conv => whnf); refine Hid.seq ?_
      refine Hid.regD ?_; refine SReg.t 0 [] (by decide +kernel) ?_; (conv => whnf); refine And.intro (by omega) ?_; (conv => whnf); refine ⟨_, IntWalk.i64_in _ (by simp only [List.length_cons, List.length_nil]; omega), ?_⟩; (conv => whnf); refine And.intro (by simp only [List.length_cons, List.length_nil]; omega) ?_; (conv => whnf); refine Hid.ret ?_; (conv => whnf); exact .p (.refl _) (by simp)
  refine CallP.h Ty.tok Ty.mixed Tryz.func98 rfl Tryz.ntmps98 rfl (by simp) (by decide +kernel) fun σ => ?_
  (conv => whnf); refine Hid.seq ?_; refine Hid.reg ?_; (conv => whnf); refine Hid.seq ?_; refine Hid.reg ?_; (conv => whnf); refine SCall.p (by exact inner) ?_; (conv => whnf); refine Hid.ret ?_; (conv => whnf); exact .p (.refl _) rfl
def pairB (last p : List UInt8) : Bool := cutIs 61 p && wordS (cutA 61 p) && wordS (cutB 61 p) && !(ltS (cutA 61 p) last || decide (cutA 61 p = last))
def pairsB : List UInt8 → List (List UInt8) → Bool
  | _, [] => true
  | last, p :: l => pairB last p && pairsB (cutA 61 p) l
def attrsT (s : List UInt8) : Bool := decide (s = []) || pairsB [] (pcs 44 s) && decide (s.length ≤ 30)
theorem pcs_mem_len (c : UInt8) : ∀ (l : List UInt8), ∀ p ∈ pcs c l, p.length ≤ l.length
  | [], p, h => by simp [pcs] at h; subst h; simp
  | b :: l, p, h => by
    have ih := pcs_mem_len c l
    rw [pcs] at h
    split at h
    · rcases List.mem_cons.1 h with rfl | h
      · simp
      · have := ih p h; simp; omega
    · split at h
      · rename_i q qs e
        rcases List.mem_cons.1 h with rfl | h
        · have := ih q (by rw [e]; simp); simp; omega
        · have := ih p (by rw [e]; simp [h]); simp; omega
      · simp at h; subst h; simp
theorem pairs_go (w0 : Base) (s : List UInt8) (h0 : s ≠ []) (ps : List (List UInt8)) (hml : ∀ p ∈ ps, p.length ≤ 1000000000) (hpl : ps.length ≤ 1000000001) (hsp : CallP Tryz.prog w0 97 [.str s, .str [44]] (.slc 1 (strs ps) .no)) (r : AV) (h1 : pairsB [] ps = true → r = .slc 1 (strs ps) .no) (h2 : pairsB [] ps = false → r = .nils) : CallP Tryz.prog w0 74 [.str s] (.tup [r, .bool (pairsB [] ps && decide (s.length ≤ 30))]) := by
  refine CallP.h Ty.tok Ty.mixed Tryz.func74 rfl Tryz.ntmps74 rfl (by simp) (by decide +kernel) fun σ => ?_
  (conv => whnf); refine Hid.seq ?_; refine Hid.reg ?_; (conv => whnf); refine Hid.seq ?_; refine Hid.seq ?_; refine Hid.reg ?_; (conv => whnf); refine Hid.cond rfl ?_
  skip
  refine SIf.n Ty.mixed (decide_eq_false h0) ?_; refine Xc_h ?_; (conv => whnf); refine Hid.skip ?_; (conv => whnf); refine Hid.seq ?_; refine Hid.reg ?_; (conv => whnf); refine SCall.p (by exact hsp) ?_; (conv => whnf); refine Hid.seq ?_; refine Hid.reg ?_; (conv => whnf); refine Hid.seq ?_; refine Hid.seq ?_; refine Hid.reg ?_; (conv => whnf); refine Hid.block ?_; refine Hid.loop ?_
  refine SLoop.by Ty.mixed (fun ((i, last) : Nat × List UInt8) => ps.length - i) (fun (i, last) => [(0, .str s), (4, .slc 1 (strs ps) .no), (5, .str last), (15, .slc 1 (strs ps) .no), (16, .int .i64 ps.length), (17, .int .i64 i)]) (fun _ => []) (fun (i, last) τ => i ≤ ps.length ∧ pairsB last (ps.drop i) = pairsB [] ps ∧ τ = σ) (0, []) ⟨?_, .none _, Nat.zero_le _, rfl, rfl⟩ ?_
  · show xWeak [(0, .str s), (4, .slc 1 (strs ps) .no), (5, .str []), (15, .slc 1 (strs ps) .no), (16, .int .i64 ps.length), (17, .int .i64 (0 : Nat))] _
    rw [show ps.length = (strs ps).length by simp [strs]]
    repeat (first | exact trivial | refine ⟨by first | trivial | exact Weak.refl _ | exact Weak.tok _ _ _ | exact Weak.of_eq (congrArg (AV.int _) (by omega)) | exact Weak.of_eq (congrArg AV.bool (by fail)) | exact Weak.nils _ _ (.inr rfl), ?_⟩)
  rintro ⟨i, last⟩ τ ⟨hi, hd, rfl⟩; refine Xc_h ?_; (conv => whnf); refine Hid.seq ?_; refine Hid.reg ?_; (conv => whnf); refine Hid.seq ?_; refine Hid.cond rfl ?_
  skip
  refine SIf.x Ty.mixed (fun hc => ?_) (fun hc => ?_); refine Xc_h ?_; (conv => whnf); refine Hid.skip ?_; (conv => whnf); refine Hid.seq ?_; refine Hid.seq ?_; refine Hid.reg ?_; (conv => whnf); rotate_left; refine Xc_h ?_; (conv => whnf); refine Hid.exit ?_; (conv => whnf); refine Hid.seq ?_; refine Hid.reg ?_; (conv => whnf); refine Hid.ret ?_; (conv => whnf)
  rotate_right
  · have hlt : i < ps.length := by simp at hc; omega
    have ga : (strs ps)[i]? = some (.str ps[i]) := by simp [strs, hlt]
    have hpm := hml _ (List.getElem_mem hlt)
    rw [List.drop_eq_getElem_cons hlt, pairsB] at hd
    generalize ps[i] = p at *
    refine ⟨_, ⟨by first | omega | (simp only [List.length_cons, List.length_nil]; omega), by exact ga⟩, ?_⟩
    (conv => whnf); refine Hid.seq ?_; refine Hid.reg ?_; (conv => whnf); refine SCall.p (by exact cut_any w0 p 61 hpm) ?_; (conv => whnf); refine Hid.seq ?_; refine Hid.seq ?_; refine Hid.reg ?_; (conv => whnf); refine SCond.mk (fun hc => ?_) (fun hc => ?_); (conv => whnf); rotate_left; (conv => whnf)
    rotate_right
    refine SCond.y (by assumption) ?_; (conv => whnf); refine SCond.y (by assumption) ?_; (conv => whnf); refine SPick.y (by assumption) ?_; (conv => whnf); refine SCond.y (by exact rfl) ?_; (conv => whnf); refine SCond.y (by exact rfl) ?_; (conv => whnf); refine SCond.y (by exact rfl) ?_; (conv => whnf); refine SPick.y (by exact rfl) ?_; (conv => whnf); refine SCond.y (by exact rfl) ?_
    (conv => whnf); refine SCond.y (by exact rfl) ?_; (conv => whnf); refine SCond.y (by exact rfl) ?_; (conv => whnf); refine SPick.y (by exact rfl) ?_; (conv => whnf); refine Hid.cond rfl ?_; refine SIf.y Ty.mixed (by exact rfl) ?_; refine Xc_h ?_; (conv => whnf); refine Hid.seq ?_; refine Hid.reg ?_; (conv => whnf); refine Hid.ret ?_; (conv => whnf); rotate_left
    refine SCond.n (by assumption) ?_; (conv => whnf); refine SCall.p (by exact word_any w0 _) ?_; (conv => whnf); refine SCond.n (by assumption) ?_; (conv => whnf); refine SPick.n (by assumption) ?_; (conv => whnf); refine SCond.mk (fun hc => ?_) (fun hc => ?_); (conv => whnf); rotate_left; (conv => whnf)
    rotate_right
    refine SCond.y (by assumption) ?_; (conv => whnf); refine SCond.y (by assumption) ?_; (conv => whnf); refine SPick.y (by assumption) ?_; (conv => whnf); refine SCond.y (by exact rfl) ?_; (conv => whnf); refine SCond.y (by exact rfl) ?_; (conv => whnf); refine SCond.y (by exact rfl) ?_; (conv => whnf); refine SPick.y (by exact rfl) ?_; (conv => whnf); refine Hid.cond rfl ?_
    refine SIf.y Ty.mixed (by exact rfl) ?_; refine Xc_h ?_; (conv => whnf); refine Hid.seq ?_; refine Hid.reg ?_; (conv => whnf); refine Hid.ret ?_; (conv => whnf); rotate_left; refine SCond.n (by assumption) ?_; (conv => whnf); refine SCall.p (by exact word_any w0 _) ?_; (conv => whnf); refine SCond.n (by assumption) ?_; (conv => whnf); refine SPick.n (by assumption) ?_; (conv => whnf)
    refine SCond.mk (fun hc => ?_) (fun hc => ?_); (conv => whnf); rotate_left; (conv => whnf)
    rotate_right
    refine SCond.y (by assumption) ?_; (conv => whnf); refine SCond.y (by assumption) ?_; (conv => whnf); refine SPick.y (by assumption) ?_; (conv => whnf); refine Hid.cond rfl ?_; refine SIf.y Ty.mixed (by exact rfl) ?_; refine Xc_h ?_; (conv => whnf); refine Hid.seq ?_; refine Hid.reg ?_; (conv => whnf); refine Hid.ret ?_; (conv => whnf); rotate_left; refine SCond.n (by assumption) ?_
    (conv => whnf); refine SCond.n (by assumption) ?_; (conv => whnf); refine SPick.n (by assumption) ?_; (conv => whnf); refine Hid.cond rfl ?_; refine SIf.x Ty.mixed (fun hc => ?_) (fun hc => ?_); refine Xc_h ?_; (conv => whnf); refine Hid.seq ?_; refine Hid.reg ?_; (conv => whnf); refine Hid.ret ?_; (conv => whnf); rotate_left; refine Xc_h ?_; (conv => whnf); refine Hid.skip ?_; (conv => whnf)
    refine Hid.reg ?_; (conv => whnf); refine Hid.reg ?_; (conv => whnf)
    rotate_right
    rotate_left; refine ⟨_, IntWalk.i64_in _ (by omega), ?_⟩; (conv => whnf); rotate_left
    all_goals first
      | (have hb : pairsB [] ps = false := by
           rw [← hd]
           clear hd hsp h1 h2 ga hml hpl hpm
           simp only [pairB]
           generalize cutIs 61 p = q1 at *
           generalize wordS (cutA 61 p) = q2 at *
           generalize wordS (cutB 61 p) = q3 at *
           generalize (ltS (cutA 61 p) last || decide (cutA 61 p = last)) = q4 at *
           cases q1 <;> cases q2 <;> cases q3 <;> cases q4 <;> simp_all
         exact .p (.refl _) (by rw [h2 hb, hb, Bool.false_and]))
      | (have hp : pairB last p = true := by
           clear hd hsp h1 h2 ga hml hpl hpm
           simp only [pairB]
           generalize cutIs 61 p = q1 at *
           generalize wordS (cutA 61 p) = q2 at *
           generalize wordS (cutB 61 p) = q3 at *
           generalize (ltS (cutA 61 p) last || decide (cutA 61 p = last)) = q4 at *
           cases q1 <;> cases q2 <;> cases q3 <;> cases q4 <;> simp_all
         rw [hp, Bool.true_and] at hd
         exact ⟨(i + 1, cutA 61 p), by show ps.length - (i + 1) < ps.length - i; omega, by repeat (first | exact trivial | refine ⟨by first | trivial | exact Weak.refl _ | exact Weak.tok _ _ _ | exact Weak.of_eq (congrArg (AV.int _) (by omega)) | exact Weak.of_eq (congrArg AV.bool (by fail)) | exact Weak.nils _ _ (.inr rfl), ?_⟩), .none _, hlt, hd, rfl⟩)
  · have hge : i = ps.length := by simp at hc; omega
    subst hge
    rw [List.drop_length] at hd
    have hb : pairsB [] ps = true := hd.symm
    skip
    exact .p (.refl _) (by rw [h1 hb, hb, Bool.true_and, show decide (s.length ≤ 30) = decide ((s.length : Int) ≤ 30) from decide_eq_decide.2 (by omega)])
theorem pairs_any (w0 : Base) (s : List UInt8) (hs : s.length ≤ 1000000000) : ∃ r, (r = .nils ∨ r = .slc 1 (strs (pcs 44 s)) .no) ∧ CallP Tryz.prog w0 74 [.str s] (.tup [r, .bool (attrsT s)]) := by
  by_cases h0 : s = []
  · subst h0
    refine ⟨.nils, .inl rfl, ?_⟩
    refine CallP.h Ty.tok Ty.mixed Tryz.func74 rfl Tryz.ntmps74 rfl (by simp) (by decide +kernel) fun σ => ?_
    (conv => whnf); refine Hid.seq ?_; refine Hid.reg ?_; (conv => whnf); refine Hid.seq ?_; refine Hid.seq ?_; refine Hid.reg ?_; (conv => whnf); refine Hid.cond rfl ?_; refine SIf.y Ty.mixed (by exact rfl) ?_; refine Xc_h ?_; (conv => whnf); refine Hid.seq ?_; refine Hid.reg ?_; (conv => whnf); refine Hid.ret ?_; (conv => whnf); exact .p (.refl _) rfl
  have hat : attrsT s = (pairsB [] (pcs 44 s) && decide (s.length ≤ 30)) := by rw [attrsT, decide_eq_false h0, Bool.false_or]
  rw [hat]
  have go := pairs_go w0 s h0 (pcs 44 s) (fun p hp => Nat.le_trans (pcs_mem_len 44 s p hp) hs) (Nat.le_trans (pcs_len 44 s) (by omega)) (split_any w0 s 44 (by omega))
  cases hb : pairsB [] (pcs 44 s) with
  | true => exact ⟨_, .inr rfl, hb ▸ go _ (fun _ => rfl) (fun h => by rw [hb] at h; cases h)⟩
  | false => exact ⟨_, .inl rfl, hb ▸ go _ (fun h => by rw [hb] at h; cases h) (fun _ => rfl)⟩
theorem attrs_any (w0 : Base) (s : List UInt8) (hs : s.length ≤ 1000000000) : CallP Tryz.prog w0 55 [.str s] (.bool (attrsT s)) := by
  obtain ⟨r, hr, h⟩ := pairs_any w0 s hs
  refine CallP.h Ty.tok Ty.mixed Tryz.func55 rfl Tryz.ntmps55 rfl (by simp) (by decide +kernel) fun σ => ?_
  rcases hr with rfl | rfl
  · (conv => whnf)
    refine Hid.seq ?_; refine Hid.reg ?_; (conv => whnf); refine Hid.seq ?_; refine Hid.reg ?_; (conv => whnf); refine SCall.p (by exact h) ?_; (conv => whnf); refine Hid.seq ?_; refine Hid.reg ?_; (conv => whnf); refine Hid.ret ?_; (conv => whnf); exact .p (.refl _) rfl
  · (conv => whnf)
    refine Hid.seq ?_; refine Hid.reg ?_; (conv => whnf); refine Hid.seq ?_; refine Hid.reg ?_; (conv => whnf); refine SCall.p (by exact h) ?_; (conv => whnf); refine Hid.seq ?_; refine Hid.reg ?_; (conv => whnf); refine Hid.ret ?_; (conv => whnf); exact .p (.refl _) rfl
def nameT (s : List UInt8) : Bool := decide (s.length ≤ 20) && (rightT s && decide (Lib.indexByte s 47 < 0))
theorem contains_any (w0 : Base) (s : List UInt8) (c : UInt8) : CallP Tryz.prog w0 70 [.str s, .str [c]] (.bool (decide (0 ≤ Lib.indexByte s c))) := by
  refine CallP.h Ty.tok Ty.mixed Tryz.func70 rfl Tryz.ntmps70 rfl (by simp) (by decide +kernel) fun σ => ?_
  (conv => whnf); refine Hid.seq ?_; refine Hid.reg ?_; (conv => whnf); refine Hid.seq ?_; refine Hid.reg ?_; (conv => whnf); refine SCall.p (by exact index_any w0 _ _) ?_; (conv => whnf); refine Hid.ret ?_; (conv => whnf); exact .p (.refl _) rfl
theorem name_any (w0 : Base) (s : List UInt8) (hs : s.length ≤ 1000000000) : CallP Tryz.prog w0 53 [.str s] (.bool (nameT s)) := by
  refine CallP.h Ty.tok Ty.mixed Tryz.func53 rfl Tryz.ntmps53 rfl (by simp) (by decide +kernel) fun σ => ?_
  (conv => whnf); refine Hid.seq ?_; refine Hid.reg ?_; (conv => whnf); refine Hid.seq ?_; refine Hid.reg ?_; (conv => whnf); refine SCond.mk (fun hc => ?_) (fun hc => ?_); (conv => whnf); rotate_left; (conv => whnf)
  rotate_right
  refine SCond.y (by assumption) ?_; (conv => whnf); refine SCall.p (by exact right_any w0 s (by omega)) ?_; (conv => whnf); refine SPick.y (by assumption) ?_; (conv => whnf); refine SCond.mk (fun hc => ?_) (fun hc => ?_); (conv => whnf); rotate_left; (conv => whnf)
  rotate_right
  refine SCond.y (by assumption) ?_; (conv => whnf); refine SCall.p (by exact contains_any w0 _ _) ?_; (conv => whnf); refine SCond.y (by assumption) ?_; (conv => whnf); refine SPick.y (by assumption) ?_; (conv => whnf); refine Hid.ret ?_; (conv => whnf); rotate_left; refine SCond.n (by assumption) ?_; (conv => whnf); refine SCond.n (by assumption) ?_; (conv => whnf)
  refine SPick.n (by assumption) ?_; (conv => whnf); refine Hid.ret ?_; (conv => whnf); rotate_left; refine SCond.n (by assumption) ?_; (conv => whnf); refine SPick.n (by assumption) ?_; (conv => whnf); refine SCond.n (by exact rfl) ?_; (conv => whnf); refine SCond.n (by exact rfl) ?_; (conv => whnf); refine SCond.n (by exact rfl) ?_; (conv => whnf); refine SPick.n (by exact rfl) ?_; (conv => whnf)
  refine Hid.ret ?_; (conv => whnf); rotate_left
  all_goals
    refine .p (.refl _) (congrArg AV.bool ?_)
    rw [nameT]
    rw [Bool.eq_iff_iff]
    simp_all
    try omega
end Go.Proofs.YtgliemhhnkhboaaGreatDoor
end
section
set_option linter.unusedVariables false
set_option linter.unusedSimpArgs false
set_option maxRecDepth 100000
set_option maxHeartbeats 2000000
namespace Go.Proofs.YtgliemhhnkhboaaGreatDoor
open Go.Al Go.RowKit
def btw (n a b : Int) : Bool := decide (a ≤ n) && decide (n ≤ b)
def msgT (m : Msg) (most lease clock : Int) : Bool :=
  (decide (m.body.length ≤ 60) && (attrsT m.attr && btw m.prio 0 9)) &&
  (if m.dead = true then decide (m.until_ = 0) && ((decide (m.why = [110, 97, 99, 107]) || decide (m.why = [116, 105, 109, 101])) && decide (m.tries = most))
   else if m.why ≠ [] then false else if m.until_ = 0 then btw m.tries 0 (most - 1)
   else btw m.tries 1 most && (decide (clock < m.until_) && decide (m.until_ ≤ clock + lease)))
theorem message_any (w0 : Base) (m : Msg) (x : Sub) (clock : Int) (hat : m.attr.length ≤ 1000000000) (hm : 1 ≤ x.most ∧ x.most ≤ 9) (hl : 1 ≤ x.lease ∧ x.lease ≤ 1000) (hck : -4611686018427387904 ≤ clock ∧ clock ≤ 4611686018427387904) : CallP Tryz.prog w0 37 [eMsg m, eSub x, .int .i64 clock] (.bool (msgT m x.most x.lease clock)) := by
  refine CallP.h Ty.tok Ty.mixed Tryz.func37 rfl Tryz.ntmps37 rfl (by simp) (by decide +kernel) fun σ => ?_
  (conv => whnf); refine Hid.seq ?_; refine Hid.reg ?_; (conv => whnf); refine SBox.f ?_; (conv => whnf); refine SBox.f ?_; (conv => whnf); refine Hid.seq ?_; refine Hid.seq ?_; refine Hid.reg ?_; (conv => whnf); refine SCond.mk (fun hc => ?_) (fun hc => ?_); (conv => whnf); rotate_left; (conv => whnf)
  rotate_right
  refine SCond.y (by assumption) ?_; (conv => whnf); refine SCond.y (by assumption) ?_; (conv => whnf); refine SCall.p (by exact attrs_any w0 _ hat) ?_; (conv => whnf); refine SPick.y (by assumption) ?_; (conv => whnf); refine SCond.mk (fun hc => ?_) (fun hc => ?_); (conv => whnf); rotate_left; (conv => whnf)
  rotate_right
  refine SCond.y (by assumption) ?_; (conv => whnf); refine SCond.y (by assumption) ?_; (conv => whnf); refine SCall.p (by exact between_any w0 _ _ _) ?_; (conv => whnf); refine SPick.y (by assumption) ?_; (conv => whnf); refine Hid.seq ?_; refine Hid.reg ?_; (conv => whnf); refine Hid.cond rfl ?_; refine SIf.x Ty.mixed (fun hc => ?_) (fun hc => ?_); refine Xc_h ?_; (conv => whnf)
  refine Hid.seq ?_; refine Hid.reg ?_; (conv => whnf); refine Hid.ret ?_; (conv => whnf); rotate_left; refine Xc_h ?_; (conv => whnf); refine Hid.seq ?_; refine Hid.reg ?_; (conv => whnf); refine Hid.cond rfl ?_
  rotate_right
  rotate_left; refine SIf.x Ty.mixed (fun hc => ?_) (fun hc => ?_); refine Xc_h ?_; (conv => whnf); refine Hid.seq ?_; refine Hid.reg ?_; (conv => whnf); rotate_left; refine Xc_h ?_; (conv => whnf); refine Hid.seq ?_; refine Hid.reg ?_; (conv => whnf); refine Hid.cond rfl ?_
  rotate_right
  refine SCond.mk (fun hc => ?_) (fun hc => ?_); (conv => whnf); rotate_left; (conv => whnf)
  rotate_right
  refine SCond.y (by assumption) ?_; (conv => whnf); refine SCond.y (by assumption) ?_; (conv => whnf); refine SCond.y (by assumption) ?_; (conv => whnf); refine SCond.mk (fun hc => ?_) (fun hc => ?_); (conv => whnf); rotate_left; (conv => whnf)
  rotate_right
  refine SCond.y (by assumption) ?_; (conv => whnf); refine SCond.y (by assumption) ?_; (conv => whnf); refine SCond.y (by assumption) ?_; (conv => whnf); refine SPick.y (by assumption) ?_; (conv => whnf); refine SPick.y (by assumption) ?_; (conv => whnf); refine SCond.y (by exact rfl) ?_; (conv => whnf); refine SCond.y (by exact rfl) ?_; (conv => whnf); refine SCond.y (by exact rfl) ?_
  (conv => whnf); refine SCond.y (by exact rfl) ?_; (conv => whnf); refine SCond.y (by exact rfl) ?_; (conv => whnf); refine SPick.y (by exact rfl) ?_; (conv => whnf); refine Hid.ret ?_; (conv => whnf); rotate_left; refine SCond.n (by assumption) ?_; (conv => whnf); refine SCond.n (by assumption) ?_; (conv => whnf); refine SCond.y (by assumption) ?_; (conv => whnf)
  refine SPick.n (by assumption) ?_; (conv => whnf); refine SPick.y (by assumption) ?_; (conv => whnf); refine SCond.mk (fun hc => ?_) (fun hc => ?_); (conv => whnf); rotate_left; (conv => whnf)
  rotate_right
  refine SCond.y (by assumption) ?_; (conv => whnf); refine SCond.y (by assumption) ?_; (conv => whnf); refine SCond.y (by assumption) ?_; (conv => whnf); refine SCond.y (by assumption) ?_; (conv => whnf); refine SPick.y (by assumption) ?_; (conv => whnf); refine Hid.ret ?_; (conv => whnf); rotate_left; refine SCond.n (by assumption) ?_; (conv => whnf); refine SCond.n (by assumption) ?_
  (conv => whnf); refine SCond.n (by assumption) ?_; (conv => whnf); refine SCond.n (by assumption) ?_; (conv => whnf); refine SPick.n (by assumption) ?_; (conv => whnf); refine Hid.ret ?_; (conv => whnf); rotate_left; refine SCond.n (by assumption) ?_; (conv => whnf); refine SCond.n (by assumption) ?_; (conv => whnf); refine SCond.n (by assumption) ?_; (conv => whnf)
  refine SCond.n (by assumption) ?_; (conv => whnf); refine SPick.n (by assumption) ?_; (conv => whnf); refine SCond.n (by exact rfl) ?_; (conv => whnf); refine SCond.n (by exact rfl) ?_; (conv => whnf); refine SCond.n (by exact rfl) ?_; (conv => whnf); refine SCond.n (by exact rfl) ?_; (conv => whnf); refine SCond.n (by exact rfl) ?_; (conv => whnf); refine SPick.n (by exact rfl) ?_
  (conv => whnf); refine Hid.ret ?_; (conv => whnf); rotate_left; refine SIf.x Ty.mixed (fun hc => ?_) (fun hc => ?_); refine Xc_h ?_; (conv => whnf); refine Hid.seq ?_; refine Hid.reg ?_; (conv => whnf); refine Hid.ret ?_; (conv => whnf); rotate_left; refine Xc_h ?_; (conv => whnf); refine Hid.seq ?_; refine Hid.reg ?_; (conv => whnf); refine Hid.cond rfl ?_
  rotate_right
  rotate_left; refine SIf.x Ty.mixed (fun hc => ?_) (fun hc => ?_); refine Xc_h ?_; (conv => whnf); refine Hid.seq ?_; refine Hid.reg ?_; (conv => whnf); rotate_left; refine Xc_h ?_; (conv => whnf); refine Hid.skip ?_; (conv => whnf); refine Hid.seq ?_; refine Hid.reg ?_; (conv => whnf)
  rotate_right
  refine ⟨_, IntWalk.i64_in _ (by omega), ?_⟩; (conv => whnf); refine SCall.p (by exact between_any w0 _ _ _) ?_; (conv => whnf); refine Hid.ret ?_; (conv => whnf); rotate_left; refine SCall.p (by exact between_any w0 _ _ _) ?_; (conv => whnf); refine SCond.mk (fun hc => ?_) (fun hc => ?_); (conv => whnf); rotate_left; (conv => whnf)
  rotate_right
  refine SCond.y (by assumption) ?_; (conv => whnf); refine SCond.y (by assumption) ?_; (conv => whnf); refine SCond.y (by assumption) ?_; (conv => whnf); refine SPick.y (by assumption) ?_; (conv => whnf); refine SCond.mk (fun hc => ?_) (fun hc => ?_); (conv => whnf); rotate_left; (conv => whnf)
  rotate_right
  refine SCond.y (by assumption) ?_; (conv => whnf); refine SCond.y (by assumption) ?_; (conv => whnf); refine SCond.y (by assumption) ?_; (conv => whnf); refine SCond.y (by assumption) ?_; (conv => whnf); refine SCond.y (by assumption) ?_; (conv => whnf); refine ⟨_, IntWalk.i64_in _ (by omega), ?_⟩; (conv => whnf); refine SCond.y (by assumption) ?_; (conv => whnf)
  refine SPick.y (by assumption) ?_; (conv => whnf); refine Hid.ret ?_; (conv => whnf); rotate_left; refine SCond.n (by assumption) ?_; (conv => whnf); refine SCond.n (by assumption) ?_; (conv => whnf); refine SCond.n (by assumption) ?_; (conv => whnf); refine SCond.n (by assumption) ?_; (conv => whnf); refine SCond.n (by assumption) ?_; (conv => whnf); refine SCond.n (by assumption) ?_
  (conv => whnf); refine SPick.n (by assumption) ?_; (conv => whnf); refine Hid.ret ?_; (conv => whnf); rotate_left; refine SCond.n (by assumption) ?_; (conv => whnf); refine SCond.n (by assumption) ?_; (conv => whnf); refine SCond.n (by assumption) ?_; (conv => whnf); refine SPick.n (by assumption) ?_; (conv => whnf); refine SCond.n (by exact rfl) ?_; (conv => whnf)
  refine SCond.n (by exact rfl) ?_; (conv => whnf); refine SCond.n (by exact rfl) ?_; (conv => whnf); refine SCond.n (by exact rfl) ?_; (conv => whnf); refine SCond.n (by exact rfl) ?_; (conv => whnf); refine SCond.n (by exact rfl) ?_; (conv => whnf); refine SCond.n (by exact rfl) ?_; (conv => whnf); refine SPick.n (by exact rfl) ?_; (conv => whnf); refine Hid.ret ?_; (conv => whnf); rotate_left
  refine SCond.n (by assumption) ?_; (conv => whnf); refine SCond.n (by assumption) ?_; (conv => whnf); refine SPick.n (by assumption) ?_; (conv => whnf); refine Hid.seq ?_; refine Hid.reg ?_; (conv => whnf); refine Hid.cond rfl ?_; refine SIf.y Ty.mixed (by exact rfl) ?_; refine Xc_h ?_; (conv => whnf); refine Hid.seq ?_; refine Hid.reg ?_; (conv => whnf); refine Hid.ret ?_; (conv => whnf)
  rotate_left; refine SCond.n (by assumption) ?_; (conv => whnf); refine SCond.n (by assumption) ?_; (conv => whnf); refine SPick.n (by assumption) ?_; (conv => whnf); refine SCond.n (by exact rfl) ?_; (conv => whnf); refine SCond.n (by exact rfl) ?_; (conv => whnf); refine SCond.n (by exact rfl) ?_; (conv => whnf); refine SPick.n (by exact rfl) ?_; (conv => whnf); refine Hid.seq ?_
  refine Hid.reg ?_; (conv => whnf); refine Hid.cond rfl ?_; refine SIf.y Ty.mixed (by exact rfl) ?_; refine Xc_h ?_; (conv => whnf); refine Hid.seq ?_; refine Hid.reg ?_; (conv => whnf); refine Hid.ret ?_; (conv => whnf); rotate_left
  all_goals
    refine .p (.refl _) (congrArg AV.bool ?_); clear hat hm hl hck
    rw [msgT, Bool.eq_iff_iff]
    simp only [btw]
    first
      | (simp_all; done)
      | (simp_all; omega)
def fieldsT (x : Sub) (next : Int) : Bool :=
  ((nameT x.name && (patT x.topic && (attrsT x.want && decide (x.note.length ≤ 30)))) && ((btw x.id 1 1073741824 && (btw x.lease 1 1000 && (btw x.most 1 9 && (decide (0 ≤ x.floor) && decide (x.floor < next))))) && (decide (x.acks.length ≤ 20) && decide (x.queue.length ≤ 30))))
structure Small (x : Sub) : Prop where
  name : x.name.length ≤ 1000000000
  topic : x.topic.length ≤ 1000000000
  want : x.want.length ≤ 1000000000
  attr : ∀ m ∈ x.queue, m.attr.length ≤ 1000000000
  nacks : x.acks.length ≤ 17592186043904
  nqueue : x.queue.length ≤ 1599289640354
theorem fields_any (w0 : Base) (x : Sub) (next : Int) (hx : Small x) : CallP Tryz.prog w0 34 [eSub x, .int .i64 next] (.bool (fieldsT x next)) := by
  have h1 := hx.name
  have h2 := hx.topic
  have h3 := hx.want
  refine CallP.h Ty.tok Ty.mixed Tryz.func34 rfl Tryz.ntmps34 rfl (by simp) (by decide +kernel) fun σ => ?_
  (conv => whnf); refine Hid.seq ?_; refine Hid.reg ?_; (conv => whnf); refine SBox.f ?_; (conv => whnf); refine Hid.seq ?_; refine Hid.reg ?_; (conv => whnf); refine SCall.p (by exact name_any w0 _ h1) ?_; (conv => whnf); refine SCond.mk (fun hc => ?_) (fun hc => ?_); (conv => whnf); rotate_left; (conv => whnf)
  rotate_right
  refine SCond.y (by assumption) ?_; (conv => whnf); refine SCond.y (by assumption) ?_; (conv => whnf); refine SCall.p (by exact pattern_any w0 _ (by omega)) ?_; (conv => whnf); refine SPick.y (by assumption) ?_; (conv => whnf); refine SCond.mk (fun hc => ?_) (fun hc => ?_); (conv => whnf); rotate_left; (conv => whnf)
  rotate_right
  refine SCond.y (by assumption) ?_; (conv => whnf); refine SCond.y (by assumption) ?_; (conv => whnf); refine SCall.p (by exact attrs_any w0 _ h3) ?_; (conv => whnf); refine SPick.y (by assumption) ?_; (conv => whnf); refine SCond.mk (fun hc => ?_) (fun hc => ?_); (conv => whnf); rotate_left; (conv => whnf)
  rotate_right
  refine SCond.y (by assumption) ?_; (conv => whnf); refine SCond.y (by assumption) ?_; (conv => whnf); refine SCond.y (by assumption) ?_; (conv => whnf); refine SPick.y (by assumption) ?_; (conv => whnf); refine Hid.seq ?_; refine Hid.reg ?_; (conv => whnf); refine SCall.p (by exact between_any w0 _ _ _) ?_; (conv => whnf); refine SCond.mk (fun hc => ?_) (fun hc => ?_); (conv => whnf); rotate_left
  (conv => whnf)
  rotate_right
  refine SCond.y (by assumption) ?_; (conv => whnf); refine SCond.y (by assumption) ?_; (conv => whnf); refine SCall.p (by exact between_any w0 _ _ _) ?_; (conv => whnf); refine SPick.y (by assumption) ?_; (conv => whnf); refine SCond.mk (fun hc => ?_) (fun hc => ?_); (conv => whnf); rotate_left; (conv => whnf)
  rotate_right
  refine SCond.y (by assumption) ?_; (conv => whnf); refine SCond.y (by assumption) ?_; (conv => whnf); refine SCall.p (by exact between_any w0 _ _ _) ?_; (conv => whnf); refine SPick.y (by assumption) ?_; (conv => whnf); refine SCond.mk (fun hc => ?_) (fun hc => ?_); (conv => whnf); rotate_left; (conv => whnf)
  rotate_right
  refine SCond.y (by assumption) ?_; (conv => whnf); refine SCond.y (by assumption) ?_; (conv => whnf); refine SPick.y (by assumption) ?_; (conv => whnf); refine SCond.mk (fun hc => ?_) (fun hc => ?_); (conv => whnf); rotate_left; (conv => whnf)
  rotate_right
  refine SCond.y (by assumption) ?_; (conv => whnf); refine SCond.y (by assumption) ?_; (conv => whnf); refine SCond.y (by assumption) ?_; (conv => whnf); refine SPick.y (by assumption) ?_; (conv => whnf); refine Hid.seq ?_; refine Hid.reg ?_; (conv => whnf); refine SCond.mk (fun hc => ?_) (fun hc => ?_); (conv => whnf); rotate_left; (conv => whnf)
  rotate_right
  refine SPick.y (by assumption) ?_; (conv => whnf); refine SCond.mk (fun hc => ?_) (fun hc => ?_); (conv => whnf); rotate_left; (conv => whnf)
  rotate_right
  refine SCond.y (by assumption) ?_; (conv => whnf); refine SCond.y (by assumption) ?_; (conv => whnf); refine SCond.y (by assumption) ?_; (conv => whnf); refine SPick.y (by assumption) ?_; (conv => whnf); refine SCond.mk (fun hc => ?_) (fun hc => ?_); (conv => whnf); rotate_left; (conv => whnf)
  rotate_right
  refine SCond.y (by assumption) ?_; (conv => whnf); refine SCond.y (by assumption) ?_; (conv => whnf); refine SCond.y (by assumption) ?_; (conv => whnf); refine SPick.y (by assumption) ?_; (conv => whnf); refine Hid.ret ?_; (conv => whnf); rotate_left; refine SCond.n (by assumption) ?_; (conv => whnf); refine SCond.n (by assumption) ?_; (conv => whnf); refine SCond.n (by assumption) ?_
  (conv => whnf); refine SPick.n (by assumption) ?_; (conv => whnf); refine Hid.ret ?_; (conv => whnf); rotate_left; refine SCond.n (by assumption) ?_; (conv => whnf); refine SCond.n (by assumption) ?_; (conv => whnf); refine SCond.n (by assumption) ?_; (conv => whnf); refine SPick.n (by assumption) ?_; (conv => whnf); refine SCond.n (by exact rfl) ?_; (conv => whnf)
  refine SCond.n (by exact rfl) ?_; (conv => whnf); refine SCond.n (by exact rfl) ?_; (conv => whnf); refine SCond.n (by exact rfl) ?_; (conv => whnf); refine SPick.n (by exact rfl) ?_; (conv => whnf); refine Hid.ret ?_; (conv => whnf); rotate_left; refine SPick.n (by assumption) ?_; (conv => whnf); refine SCond.n (by exact rfl) ?_; (conv => whnf); refine SCond.n (by exact rfl) ?_; (conv => whnf)
  refine SCond.n (by exact rfl) ?_; (conv => whnf); refine SCond.n (by exact rfl) ?_; (conv => whnf); refine SPick.n (by exact rfl) ?_; (conv => whnf); refine SCond.n (by exact rfl) ?_; (conv => whnf); refine SCond.n (by exact rfl) ?_; (conv => whnf); refine SCond.n (by exact rfl) ?_; (conv => whnf); refine SCond.n (by exact rfl) ?_; (conv => whnf); refine SPick.n (by exact rfl) ?_; (conv => whnf)
  refine Hid.ret ?_; (conv => whnf); rotate_left; refine SCond.n (by assumption) ?_; (conv => whnf); refine SCond.n (by assumption) ?_; (conv => whnf); refine SCond.n (by assumption) ?_; (conv => whnf); refine SPick.n (by assumption) ?_; (conv => whnf); refine Hid.seq ?_; refine Hid.reg ?_; (conv => whnf); refine SCond.mk (fun hc => ?_) (fun hc => ?_); (conv => whnf); rotate_left; (conv => whnf)
  rotate_right
  refine SPick.y (by assumption) ?_; (conv => whnf); refine SCond.n (by exact rfl) ?_; (conv => whnf); refine SCond.n (by exact rfl) ?_; (conv => whnf); refine SCond.n (by exact rfl) ?_; (conv => whnf); refine SCond.n (by exact rfl) ?_; (conv => whnf); refine SPick.n (by exact rfl) ?_; (conv => whnf); refine SCond.n (by exact rfl) ?_; (conv => whnf); refine SCond.n (by exact rfl) ?_; (conv => whnf)
  refine SCond.n (by exact rfl) ?_; (conv => whnf); refine SCond.n (by exact rfl) ?_; (conv => whnf); refine SPick.n (by exact rfl) ?_; (conv => whnf); refine Hid.ret ?_; (conv => whnf); rotate_left; refine SPick.n (by assumption) ?_; (conv => whnf); refine SCond.n (by exact rfl) ?_; (conv => whnf); refine SCond.n (by exact rfl) ?_; (conv => whnf); refine SCond.n (by exact rfl) ?_; (conv => whnf)
  refine SCond.n (by exact rfl) ?_; (conv => whnf); refine SPick.n (by exact rfl) ?_; (conv => whnf); refine SCond.n (by exact rfl) ?_; (conv => whnf); refine SCond.n (by exact rfl) ?_; (conv => whnf); refine SCond.n (by exact rfl) ?_; (conv => whnf); refine SCond.n (by exact rfl) ?_; (conv => whnf); refine SPick.n (by exact rfl) ?_; (conv => whnf); refine Hid.ret ?_; (conv => whnf); rotate_left
  refine SCond.n (by assumption) ?_; (conv => whnf); refine SCond.n (by assumption) ?_; (conv => whnf); refine SPick.n (by assumption) ?_; (conv => whnf); refine SCond.n (by exact rfl) ?_; (conv => whnf); refine SCond.n (by exact rfl) ?_; (conv => whnf); refine SCond.n (by exact rfl) ?_; (conv => whnf); refine SCond.n (by exact rfl) ?_; (conv => whnf); refine SPick.n (by exact rfl) ?_
  (conv => whnf); refine Hid.seq ?_; refine Hid.reg ?_; (conv => whnf); refine SCond.mk (fun hc => ?_) (fun hc => ?_); (conv => whnf); rotate_left; (conv => whnf)
  rotate_right
  refine SPick.y (by assumption) ?_; (conv => whnf); refine SCond.n (by exact rfl) ?_; (conv => whnf); refine SCond.n (by exact rfl) ?_; (conv => whnf); refine SCond.n (by exact rfl) ?_; (conv => whnf); refine SCond.n (by exact rfl) ?_; (conv => whnf); refine SPick.n (by exact rfl) ?_; (conv => whnf); refine SCond.n (by exact rfl) ?_; (conv => whnf); refine SCond.n (by exact rfl) ?_; (conv => whnf)
  refine SCond.n (by exact rfl) ?_; (conv => whnf); refine SCond.n (by exact rfl) ?_; (conv => whnf); refine SPick.n (by exact rfl) ?_; (conv => whnf); refine Hid.ret ?_; (conv => whnf); rotate_left; refine SPick.n (by assumption) ?_; (conv => whnf); refine SCond.n (by exact rfl) ?_; (conv => whnf); refine SCond.n (by exact rfl) ?_; (conv => whnf); refine SCond.n (by exact rfl) ?_; (conv => whnf)
  refine SCond.n (by exact rfl) ?_; (conv => whnf); refine SPick.n (by exact rfl) ?_; (conv => whnf); refine SCond.n (by exact rfl) ?_; (conv => whnf); refine SCond.n (by exact rfl) ?_; (conv => whnf); refine SCond.n (by exact rfl) ?_; (conv => whnf); refine SCond.n (by exact rfl) ?_; (conv => whnf); refine SPick.n (by exact rfl) ?_; (conv => whnf); refine Hid.ret ?_; (conv => whnf); rotate_left
  refine SCond.n (by assumption) ?_; (conv => whnf); refine SCond.n (by assumption) ?_; (conv => whnf); refine SPick.n (by assumption) ?_; (conv => whnf); refine SCond.n (by exact rfl) ?_; (conv => whnf); refine SCond.n (by exact rfl) ?_; (conv => whnf); refine SCond.n (by exact rfl) ?_; (conv => whnf); refine SPick.n (by exact rfl) ?_; (conv => whnf); refine SCond.n (by exact rfl) ?_
  (conv => whnf); refine SCond.n (by exact rfl) ?_; (conv => whnf); refine SCond.n (by exact rfl) ?_; (conv => whnf); refine SCond.n (by exact rfl) ?_; (conv => whnf); refine SPick.n (by exact rfl) ?_; (conv => whnf); refine Hid.seq ?_; refine Hid.reg ?_; (conv => whnf); refine SCond.mk (fun hc => ?_) (fun hc => ?_); (conv => whnf); rotate_left; (conv => whnf)
  rotate_right
  refine SPick.y (by assumption) ?_; (conv => whnf); refine SCond.n (by exact rfl) ?_; (conv => whnf); refine SCond.n (by exact rfl) ?_; (conv => whnf); refine SCond.n (by exact rfl) ?_; (conv => whnf); refine SCond.n (by exact rfl) ?_; (conv => whnf); refine SPick.n (by exact rfl) ?_; (conv => whnf); refine SCond.n (by exact rfl) ?_; (conv => whnf); refine SCond.n (by exact rfl) ?_; (conv => whnf)
  refine SCond.n (by exact rfl) ?_; (conv => whnf); refine SCond.n (by exact rfl) ?_; (conv => whnf); refine SPick.n (by exact rfl) ?_; (conv => whnf); refine Hid.ret ?_; (conv => whnf); rotate_left; refine SPick.n (by assumption) ?_; (conv => whnf); refine SCond.n (by exact rfl) ?_; (conv => whnf); refine SCond.n (by exact rfl) ?_; (conv => whnf); refine SCond.n (by exact rfl) ?_; (conv => whnf)
  refine SCond.n (by exact rfl) ?_; (conv => whnf); refine SPick.n (by exact rfl) ?_; (conv => whnf); refine SCond.n (by exact rfl) ?_; (conv => whnf); refine SCond.n (by exact rfl) ?_; (conv => whnf); refine SCond.n (by exact rfl) ?_; (conv => whnf); refine SCond.n (by exact rfl) ?_; (conv => whnf); refine SPick.n (by exact rfl) ?_; (conv => whnf); refine Hid.ret ?_; (conv => whnf); rotate_left
  refine SCond.n (by assumption) ?_; (conv => whnf); refine SCond.n (by assumption) ?_; (conv => whnf); refine SPick.n (by assumption) ?_; (conv => whnf); refine SCond.n (by exact rfl) ?_; (conv => whnf); refine SCond.n (by exact rfl) ?_; (conv => whnf); refine SCond.n (by exact rfl) ?_; (conv => whnf); refine SPick.n (by exact rfl) ?_; (conv => whnf); refine SCond.n (by exact rfl) ?_
  (conv => whnf); refine SCond.n (by exact rfl) ?_; (conv => whnf); refine SCond.n (by exact rfl) ?_; (conv => whnf); refine SPick.n (by exact rfl) ?_; (conv => whnf); refine SCond.n (by exact rfl) ?_; (conv => whnf); refine SCond.n (by exact rfl) ?_; (conv => whnf); refine SCond.n (by exact rfl) ?_; (conv => whnf); refine SCond.n (by exact rfl) ?_; (conv => whnf); refine SPick.n (by exact rfl) ?_
  (conv => whnf); refine Hid.seq ?_; refine Hid.reg ?_; (conv => whnf); refine SCond.mk (fun hc => ?_) (fun hc => ?_); (conv => whnf); rotate_left; (conv => whnf)
  rotate_right
  refine SPick.y (by assumption) ?_; (conv => whnf); refine SCond.n (by exact rfl) ?_; (conv => whnf); refine SCond.n (by exact rfl) ?_; (conv => whnf); refine SCond.n (by exact rfl) ?_; (conv => whnf); refine SCond.n (by exact rfl) ?_; (conv => whnf); refine SPick.n (by exact rfl) ?_; (conv => whnf); refine SCond.n (by exact rfl) ?_; (conv => whnf); refine SCond.n (by exact rfl) ?_; (conv => whnf)
  refine SCond.n (by exact rfl) ?_; (conv => whnf); refine SCond.n (by exact rfl) ?_; (conv => whnf); refine SPick.n (by exact rfl) ?_; (conv => whnf); refine Hid.ret ?_; (conv => whnf); rotate_left; refine SPick.n (by assumption) ?_; (conv => whnf); refine SCond.n (by exact rfl) ?_; (conv => whnf); refine SCond.n (by exact rfl) ?_; (conv => whnf); refine SCond.n (by exact rfl) ?_; (conv => whnf)
  refine SCond.n (by exact rfl) ?_; (conv => whnf); refine SPick.n (by exact rfl) ?_; (conv => whnf); refine SCond.n (by exact rfl) ?_; (conv => whnf); refine SCond.n (by exact rfl) ?_; (conv => whnf); refine SCond.n (by exact rfl) ?_; (conv => whnf); refine SCond.n (by exact rfl) ?_; (conv => whnf); refine SPick.n (by exact rfl) ?_; (conv => whnf); refine Hid.ret ?_; (conv => whnf); rotate_left
  refine SCond.n (by assumption) ?_; (conv => whnf); refine SCond.n (by assumption) ?_; (conv => whnf); refine SCond.n (by assumption) ?_; (conv => whnf); refine SPick.n (by assumption) ?_; (conv => whnf); refine Hid.seq ?_; refine Hid.reg ?_; (conv => whnf); refine SCall.p (by exact between_any w0 _ _ _) ?_; (conv => whnf); refine SCond.mk (fun hc => ?_) (fun hc => ?_); (conv => whnf); rotate_left
  (conv => whnf)
  rotate_right
  refine SCond.y (by assumption) ?_; (conv => whnf); refine SCond.y (by assumption) ?_; (conv => whnf); refine SCall.p (by exact between_any w0 _ _ _) ?_; (conv => whnf); refine SPick.y (by assumption) ?_; (conv => whnf); refine SCond.mk (fun hc => ?_) (fun hc => ?_); (conv => whnf); rotate_left; (conv => whnf)
  rotate_right
  refine SCond.y (by assumption) ?_; (conv => whnf); refine SCond.y (by assumption) ?_; (conv => whnf); refine SCall.p (by exact between_any w0 _ _ _) ?_; (conv => whnf); refine SPick.y (by assumption) ?_; (conv => whnf); refine SCond.mk (fun hc => ?_) (fun hc => ?_); (conv => whnf); rotate_left; (conv => whnf)
  rotate_right
  refine SCond.y (by assumption) ?_; (conv => whnf); refine SCond.y (by assumption) ?_; (conv => whnf); refine SPick.y (by assumption) ?_; (conv => whnf); refine SCond.mk (fun hc => ?_) (fun hc => ?_); (conv => whnf); rotate_left; (conv => whnf)
  rotate_right
  refine SCond.y (by assumption) ?_; (conv => whnf); refine SCond.y (by assumption) ?_; (conv => whnf); refine SCond.y (by assumption) ?_; (conv => whnf); refine SPick.y (by assumption) ?_; (conv => whnf); refine Hid.seq ?_; refine Hid.reg ?_; (conv => whnf); refine SCond.n (by exact rfl) ?_; (conv => whnf); refine SPick.n (by exact rfl) ?_; (conv => whnf); refine SCond.n (by exact rfl) ?_
  (conv => whnf); refine SCond.n (by exact rfl) ?_; (conv => whnf); refine SCond.n (by exact rfl) ?_; (conv => whnf); refine SCond.n (by exact rfl) ?_; (conv => whnf); refine SPick.n (by exact rfl) ?_; (conv => whnf); refine SCond.n (by exact rfl) ?_; (conv => whnf); refine SCond.n (by exact rfl) ?_; (conv => whnf); refine SCond.n (by exact rfl) ?_; (conv => whnf); refine SCond.n (by exact rfl) ?_
  (conv => whnf); refine SPick.n (by exact rfl) ?_; (conv => whnf); refine Hid.ret ?_; (conv => whnf); rotate_left; refine SCond.n (by assumption) ?_; (conv => whnf); refine SCond.n (by assumption) ?_; (conv => whnf); refine SCond.n (by assumption) ?_; (conv => whnf); refine SPick.n (by assumption) ?_; (conv => whnf); refine Hid.seq ?_; refine Hid.reg ?_; (conv => whnf)
  refine SCond.n (by exact rfl) ?_; (conv => whnf); refine SPick.n (by exact rfl) ?_; (conv => whnf); refine SCond.n (by exact rfl) ?_; (conv => whnf); refine SCond.n (by exact rfl) ?_; (conv => whnf); refine SCond.n (by exact rfl) ?_; (conv => whnf); refine SCond.n (by exact rfl) ?_; (conv => whnf); refine SPick.n (by exact rfl) ?_; (conv => whnf); refine SCond.n (by exact rfl) ?_; (conv => whnf)
  refine SCond.n (by exact rfl) ?_; (conv => whnf); refine SCond.n (by exact rfl) ?_; (conv => whnf); refine SCond.n (by exact rfl) ?_; (conv => whnf); refine SPick.n (by exact rfl) ?_; (conv => whnf); refine Hid.ret ?_; (conv => whnf); rotate_left; refine SCond.n (by assumption) ?_; (conv => whnf); refine SCond.n (by assumption) ?_; (conv => whnf); refine SPick.n (by assumption) ?_; (conv => whnf)
  refine SCond.n (by exact rfl) ?_; (conv => whnf); refine SCond.n (by exact rfl) ?_; (conv => whnf); refine SCond.n (by exact rfl) ?_; (conv => whnf); refine SCond.n (by exact rfl) ?_; (conv => whnf); refine SPick.n (by exact rfl) ?_; (conv => whnf); refine Hid.seq ?_; refine Hid.reg ?_; (conv => whnf); refine SCond.n (by exact rfl) ?_; (conv => whnf); refine SPick.n (by exact rfl) ?_
  (conv => whnf); refine SCond.n (by exact rfl) ?_; (conv => whnf); refine SCond.n (by exact rfl) ?_; (conv => whnf); refine SCond.n (by exact rfl) ?_; (conv => whnf); refine SCond.n (by exact rfl) ?_; (conv => whnf); refine SPick.n (by exact rfl) ?_; (conv => whnf); refine SCond.n (by exact rfl) ?_; (conv => whnf); refine SCond.n (by exact rfl) ?_; (conv => whnf); refine SCond.n (by exact rfl) ?_
  (conv => whnf); refine SCond.n (by exact rfl) ?_; (conv => whnf); refine SPick.n (by exact rfl) ?_; (conv => whnf); refine Hid.ret ?_; (conv => whnf); rotate_left; refine SCond.n (by assumption) ?_; (conv => whnf); refine SCond.n (by assumption) ?_; (conv => whnf); refine SPick.n (by assumption) ?_; (conv => whnf); refine SCond.n (by exact rfl) ?_; (conv => whnf); refine SCond.n (by exact rfl) ?_
  (conv => whnf); refine SCond.n (by exact rfl) ?_; (conv => whnf); refine SPick.n (by exact rfl) ?_; (conv => whnf); refine SCond.n (by exact rfl) ?_; (conv => whnf); refine SCond.n (by exact rfl) ?_; (conv => whnf); refine SCond.n (by exact rfl) ?_; (conv => whnf); refine SCond.n (by exact rfl) ?_; (conv => whnf); refine SPick.n (by exact rfl) ?_; (conv => whnf); refine Hid.seq ?_
  refine Hid.reg ?_; (conv => whnf); refine SCond.n (by exact rfl) ?_; (conv => whnf); refine SPick.n (by exact rfl) ?_; (conv => whnf); refine SCond.n (by exact rfl) ?_; (conv => whnf); refine SCond.n (by exact rfl) ?_; (conv => whnf); refine SCond.n (by exact rfl) ?_; (conv => whnf); refine SCond.n (by exact rfl) ?_; (conv => whnf); refine SPick.n (by exact rfl) ?_; (conv => whnf)
  refine SCond.n (by exact rfl) ?_; (conv => whnf); refine SCond.n (by exact rfl) ?_; (conv => whnf); refine SCond.n (by exact rfl) ?_; (conv => whnf); refine SCond.n (by exact rfl) ?_; (conv => whnf); refine SPick.n (by exact rfl) ?_; (conv => whnf); refine Hid.ret ?_; (conv => whnf); rotate_left; refine SCond.n (by assumption) ?_; (conv => whnf); refine SCond.n (by assumption) ?_; (conv => whnf)
  refine SPick.n (by assumption) ?_; (conv => whnf); refine SCond.n (by exact rfl) ?_; (conv => whnf); refine SCond.n (by exact rfl) ?_; (conv => whnf); refine SCond.n (by exact rfl) ?_; (conv => whnf); refine SPick.n (by exact rfl) ?_; (conv => whnf); refine SCond.n (by exact rfl) ?_; (conv => whnf); refine SCond.n (by exact rfl) ?_; (conv => whnf); refine SCond.n (by exact rfl) ?_; (conv => whnf)
  refine SPick.n (by exact rfl) ?_; (conv => whnf); refine SCond.n (by exact rfl) ?_; (conv => whnf); refine SCond.n (by exact rfl) ?_; (conv => whnf); refine SCond.n (by exact rfl) ?_; (conv => whnf); refine SCond.n (by exact rfl) ?_; (conv => whnf); refine SPick.n (by exact rfl) ?_; (conv => whnf); refine Hid.seq ?_; refine Hid.reg ?_; (conv => whnf); refine SCond.n (by exact rfl) ?_
  (conv => whnf); refine SPick.n (by exact rfl) ?_; (conv => whnf); refine SCond.n (by exact rfl) ?_; (conv => whnf); refine SCond.n (by exact rfl) ?_; (conv => whnf); refine SCond.n (by exact rfl) ?_; (conv => whnf); refine SCond.n (by exact rfl) ?_; (conv => whnf); refine SPick.n (by exact rfl) ?_; (conv => whnf); refine SCond.n (by exact rfl) ?_; (conv => whnf); refine SCond.n (by exact rfl) ?_
  (conv => whnf); refine SCond.n (by exact rfl) ?_; (conv => whnf); refine SCond.n (by exact rfl) ?_; (conv => whnf); refine SPick.n (by exact rfl) ?_; (conv => whnf); refine Hid.ret ?_; (conv => whnf); rotate_left; refine SCond.n (by assumption) ?_; (conv => whnf); refine SCond.n (by assumption) ?_; (conv => whnf); refine SPick.n (by assumption) ?_; (conv => whnf); refine SCond.n (by exact rfl) ?_
  (conv => whnf); refine SCond.n (by exact rfl) ?_; (conv => whnf); refine SCond.n (by exact rfl) ?_; (conv => whnf); refine SCond.n (by exact rfl) ?_; (conv => whnf); refine SPick.n (by exact rfl) ?_; (conv => whnf); refine Hid.seq ?_; refine Hid.reg ?_; (conv => whnf); refine SCall.p (by exact between_any w0 _ _ _) ?_; (conv => whnf); refine SCond.mk (fun hc => ?_) (fun hc => ?_); (conv => whnf)
  rotate_left; (conv => whnf)
  rotate_right
  refine SCond.y (by assumption) ?_; (conv => whnf); refine SCond.y (by assumption) ?_; (conv => whnf); refine SCall.p (by exact between_any w0 _ _ _) ?_; (conv => whnf); refine SPick.y (by assumption) ?_; (conv => whnf); refine SCond.mk (fun hc => ?_) (fun hc => ?_); (conv => whnf); rotate_left; (conv => whnf)
  rotate_right
  refine SCond.y (by assumption) ?_; (conv => whnf); refine SCond.y (by assumption) ?_; (conv => whnf); refine SCall.p (by exact between_any w0 _ _ _) ?_; (conv => whnf); refine SPick.y (by assumption) ?_; (conv => whnf); refine SCond.mk (fun hc => ?_) (fun hc => ?_); (conv => whnf); rotate_left; (conv => whnf)
  rotate_right
  refine SCond.y (by assumption) ?_; (conv => whnf); refine SCond.y (by assumption) ?_; (conv => whnf); refine SPick.y (by assumption) ?_; (conv => whnf); refine SCond.mk (fun hc => ?_) (fun hc => ?_); (conv => whnf); rotate_left; (conv => whnf)
  rotate_right
  refine SCond.y (by assumption) ?_; (conv => whnf); refine SCond.y (by assumption) ?_; (conv => whnf); refine SCond.y (by assumption) ?_; (conv => whnf); refine SPick.y (by assumption) ?_; (conv => whnf); refine Hid.seq ?_; refine Hid.reg ?_; (conv => whnf); refine SCond.n (by exact rfl) ?_; (conv => whnf); refine SPick.n (by exact rfl) ?_; (conv => whnf); refine SCond.n (by exact rfl) ?_
  (conv => whnf); refine SCond.n (by exact rfl) ?_; (conv => whnf); refine SCond.n (by exact rfl) ?_; (conv => whnf); refine SCond.n (by exact rfl) ?_; (conv => whnf); refine SPick.n (by exact rfl) ?_; (conv => whnf); refine SCond.n (by exact rfl) ?_; (conv => whnf); refine SCond.n (by exact rfl) ?_; (conv => whnf); refine SCond.n (by exact rfl) ?_; (conv => whnf); refine SCond.n (by exact rfl) ?_
  (conv => whnf); refine SPick.n (by exact rfl) ?_; (conv => whnf); refine Hid.ret ?_; (conv => whnf); rotate_left; refine SCond.n (by assumption) ?_; (conv => whnf); refine SCond.n (by assumption) ?_; (conv => whnf); refine SCond.n (by assumption) ?_; (conv => whnf); refine SPick.n (by assumption) ?_; (conv => whnf); refine Hid.seq ?_; refine Hid.reg ?_; (conv => whnf)
  refine SCond.n (by exact rfl) ?_; (conv => whnf); refine SPick.n (by exact rfl) ?_; (conv => whnf); refine SCond.n (by exact rfl) ?_; (conv => whnf); refine SCond.n (by exact rfl) ?_; (conv => whnf); refine SCond.n (by exact rfl) ?_; (conv => whnf); refine SCond.n (by exact rfl) ?_; (conv => whnf); refine SPick.n (by exact rfl) ?_; (conv => whnf); refine SCond.n (by exact rfl) ?_; (conv => whnf)
  refine SCond.n (by exact rfl) ?_; (conv => whnf); refine SCond.n (by exact rfl) ?_; (conv => whnf); refine SCond.n (by exact rfl) ?_; (conv => whnf); refine SPick.n (by exact rfl) ?_; (conv => whnf); refine Hid.ret ?_; (conv => whnf); rotate_left; refine SCond.n (by assumption) ?_; (conv => whnf); refine SCond.n (by assumption) ?_; (conv => whnf); refine SPick.n (by assumption) ?_; (conv => whnf)
  refine SCond.n (by exact rfl) ?_; (conv => whnf); refine SCond.n (by exact rfl) ?_; (conv => whnf); refine SCond.n (by exact rfl) ?_; (conv => whnf); refine SCond.n (by exact rfl) ?_; (conv => whnf); refine SPick.n (by exact rfl) ?_; (conv => whnf); refine Hid.seq ?_; refine Hid.reg ?_; (conv => whnf); refine SCond.n (by exact rfl) ?_; (conv => whnf); refine SPick.n (by exact rfl) ?_
  (conv => whnf); refine SCond.n (by exact rfl) ?_; (conv => whnf); refine SCond.n (by exact rfl) ?_; (conv => whnf); refine SCond.n (by exact rfl) ?_; (conv => whnf); refine SCond.n (by exact rfl) ?_; (conv => whnf); refine SPick.n (by exact rfl) ?_; (conv => whnf); refine SCond.n (by exact rfl) ?_; (conv => whnf); refine SCond.n (by exact rfl) ?_; (conv => whnf); refine SCond.n (by exact rfl) ?_
  (conv => whnf); refine SCond.n (by exact rfl) ?_; (conv => whnf); refine SPick.n (by exact rfl) ?_; (conv => whnf); refine Hid.ret ?_; (conv => whnf); rotate_left; refine SCond.n (by assumption) ?_; (conv => whnf); refine SCond.n (by assumption) ?_; (conv => whnf); refine SPick.n (by assumption) ?_; (conv => whnf); refine SCond.n (by exact rfl) ?_; (conv => whnf); refine SCond.n (by exact rfl) ?_
  (conv => whnf); refine SCond.n (by exact rfl) ?_; (conv => whnf); refine SPick.n (by exact rfl) ?_; (conv => whnf); refine SCond.n (by exact rfl) ?_; (conv => whnf); refine SCond.n (by exact rfl) ?_; (conv => whnf); refine SCond.n (by exact rfl) ?_; (conv => whnf); refine SCond.n (by exact rfl) ?_; (conv => whnf); refine SPick.n (by exact rfl) ?_; (conv => whnf); refine Hid.seq ?_
  refine Hid.reg ?_; (conv => whnf); refine SCond.n (by exact rfl) ?_; (conv => whnf); refine SPick.n (by exact rfl) ?_; (conv => whnf); refine SCond.n (by exact rfl) ?_; (conv => whnf); refine SCond.n (by exact rfl) ?_; (conv => whnf); refine SCond.n (by exact rfl) ?_; (conv => whnf); refine SCond.n (by exact rfl) ?_; (conv => whnf); refine SPick.n (by exact rfl) ?_; (conv => whnf)
  refine SCond.n (by exact rfl) ?_; (conv => whnf); refine SCond.n (by exact rfl) ?_; (conv => whnf); refine SCond.n (by exact rfl) ?_; (conv => whnf); refine SCond.n (by exact rfl) ?_; (conv => whnf); refine SPick.n (by exact rfl) ?_; (conv => whnf); refine Hid.ret ?_; (conv => whnf); rotate_left; refine SCond.n (by assumption) ?_; (conv => whnf); refine SCond.n (by assumption) ?_; (conv => whnf)
  refine SPick.n (by assumption) ?_; (conv => whnf); refine SCond.n (by exact rfl) ?_; (conv => whnf); refine SCond.n (by exact rfl) ?_; (conv => whnf); refine SCond.n (by exact rfl) ?_; (conv => whnf); refine SPick.n (by exact rfl) ?_; (conv => whnf); refine SCond.n (by exact rfl) ?_; (conv => whnf); refine SCond.n (by exact rfl) ?_; (conv => whnf); refine SCond.n (by exact rfl) ?_; (conv => whnf)
  refine SPick.n (by exact rfl) ?_; (conv => whnf); refine SCond.n (by exact rfl) ?_; (conv => whnf); refine SCond.n (by exact rfl) ?_; (conv => whnf); refine SCond.n (by exact rfl) ?_; (conv => whnf); refine SCond.n (by exact rfl) ?_; (conv => whnf); refine SPick.n (by exact rfl) ?_; (conv => whnf); refine Hid.seq ?_; refine Hid.reg ?_; (conv => whnf); refine SCond.n (by exact rfl) ?_
  (conv => whnf); refine SPick.n (by exact rfl) ?_; (conv => whnf); refine SCond.n (by exact rfl) ?_; (conv => whnf); refine SCond.n (by exact rfl) ?_; (conv => whnf); refine SCond.n (by exact rfl) ?_; (conv => whnf); refine SCond.n (by exact rfl) ?_; (conv => whnf); refine SPick.n (by exact rfl) ?_; (conv => whnf); refine SCond.n (by exact rfl) ?_; (conv => whnf); refine SCond.n (by exact rfl) ?_
  (conv => whnf); refine SCond.n (by exact rfl) ?_; (conv => whnf); refine SCond.n (by exact rfl) ?_; (conv => whnf); refine SPick.n (by exact rfl) ?_; (conv => whnf); refine Hid.ret ?_; (conv => whnf); rotate_left; refine SCond.n (by assumption) ?_; (conv => whnf); refine SCond.n (by assumption) ?_; (conv => whnf); refine SPick.n (by assumption) ?_; (conv => whnf); refine SCond.n (by exact rfl) ?_
  (conv => whnf); refine SCond.n (by exact rfl) ?_; (conv => whnf); refine SCond.n (by exact rfl) ?_; (conv => whnf); refine SPick.n (by exact rfl) ?_; (conv => whnf); refine SCond.n (by exact rfl) ?_; (conv => whnf); refine SCond.n (by exact rfl) ?_; (conv => whnf); refine SCond.n (by exact rfl) ?_; (conv => whnf); refine SCond.n (by exact rfl) ?_; (conv => whnf); refine SPick.n (by exact rfl) ?_
  (conv => whnf); refine Hid.seq ?_; refine Hid.reg ?_; (conv => whnf); refine SCall.p (by exact between_any w0 _ _ _) ?_; (conv => whnf); refine SCond.mk (fun hc => ?_) (fun hc => ?_); (conv => whnf); rotate_left; (conv => whnf)
  rotate_right
  refine SCond.y (by assumption) ?_; (conv => whnf); refine SCond.y (by assumption) ?_; (conv => whnf); refine SCall.p (by exact between_any w0 _ _ _) ?_; (conv => whnf); refine SPick.y (by assumption) ?_; (conv => whnf); refine SCond.mk (fun hc => ?_) (fun hc => ?_); (conv => whnf); rotate_left; (conv => whnf)
  rotate_right
  refine SCond.y (by assumption) ?_; (conv => whnf); refine SCond.y (by assumption) ?_; (conv => whnf); refine SCall.p (by exact between_any w0 _ _ _) ?_; (conv => whnf); refine SPick.y (by assumption) ?_; (conv => whnf); refine SCond.mk (fun hc => ?_) (fun hc => ?_); (conv => whnf); rotate_left; (conv => whnf)
  rotate_right
  refine SCond.y (by assumption) ?_; (conv => whnf); refine SCond.y (by assumption) ?_; (conv => whnf); refine SPick.y (by assumption) ?_; (conv => whnf); refine SCond.mk (fun hc => ?_) (fun hc => ?_); (conv => whnf); rotate_left; (conv => whnf)
  rotate_right
  refine SCond.y (by assumption) ?_; (conv => whnf); refine SCond.y (by assumption) ?_; (conv => whnf); refine SCond.y (by assumption) ?_; (conv => whnf); refine SPick.y (by assumption) ?_; (conv => whnf); refine Hid.seq ?_; refine Hid.reg ?_; (conv => whnf); refine SCond.n (by exact rfl) ?_; (conv => whnf); refine SPick.n (by exact rfl) ?_; (conv => whnf); refine SCond.n (by exact rfl) ?_
  (conv => whnf); refine SCond.n (by exact rfl) ?_; (conv => whnf); refine SCond.n (by exact rfl) ?_; (conv => whnf); refine SCond.n (by exact rfl) ?_; (conv => whnf); refine SPick.n (by exact rfl) ?_; (conv => whnf); refine SCond.n (by exact rfl) ?_; (conv => whnf); refine SCond.n (by exact rfl) ?_; (conv => whnf); refine SCond.n (by exact rfl) ?_; (conv => whnf); refine SCond.n (by exact rfl) ?_
  (conv => whnf); refine SPick.n (by exact rfl) ?_; (conv => whnf); refine Hid.ret ?_; (conv => whnf); rotate_left; refine SCond.n (by assumption) ?_; (conv => whnf); refine SCond.n (by assumption) ?_; (conv => whnf); refine SCond.n (by assumption) ?_; (conv => whnf); refine SPick.n (by assumption) ?_; (conv => whnf); refine Hid.seq ?_; refine Hid.reg ?_; (conv => whnf)
  refine SCond.n (by exact rfl) ?_; (conv => whnf); refine SPick.n (by exact rfl) ?_; (conv => whnf); refine SCond.n (by exact rfl) ?_; (conv => whnf); refine SCond.n (by exact rfl) ?_; (conv => whnf); refine SCond.n (by exact rfl) ?_; (conv => whnf); refine SCond.n (by exact rfl) ?_; (conv => whnf); refine SPick.n (by exact rfl) ?_; (conv => whnf); refine SCond.n (by exact rfl) ?_; (conv => whnf)
  refine SCond.n (by exact rfl) ?_; (conv => whnf); refine SCond.n (by exact rfl) ?_; (conv => whnf); refine SCond.n (by exact rfl) ?_; (conv => whnf); refine SPick.n (by exact rfl) ?_; (conv => whnf); refine Hid.ret ?_; (conv => whnf); rotate_left; refine SCond.n (by assumption) ?_; (conv => whnf); refine SCond.n (by assumption) ?_; (conv => whnf); refine SPick.n (by assumption) ?_; (conv => whnf)
  refine SCond.n (by exact rfl) ?_; (conv => whnf); refine SCond.n (by exact rfl) ?_; (conv => whnf); refine SCond.n (by exact rfl) ?_; (conv => whnf); refine SCond.n (by exact rfl) ?_; (conv => whnf); refine SPick.n (by exact rfl) ?_; (conv => whnf); refine Hid.seq ?_; refine Hid.reg ?_; (conv => whnf); refine SCond.n (by exact rfl) ?_; (conv => whnf); refine SPick.n (by exact rfl) ?_
  (conv => whnf); refine SCond.n (by exact rfl) ?_; (conv => whnf); refine SCond.n (by exact rfl) ?_; (conv => whnf); refine SCond.n (by exact rfl) ?_; (conv => whnf); refine SCond.n (by exact rfl) ?_; (conv => whnf); refine SPick.n (by exact rfl) ?_; (conv => whnf); refine SCond.n (by exact rfl) ?_; (conv => whnf); refine SCond.n (by exact rfl) ?_; (conv => whnf); refine SCond.n (by exact rfl) ?_
  (conv => whnf); refine SCond.n (by exact rfl) ?_; (conv => whnf); refine SPick.n (by exact rfl) ?_; (conv => whnf); refine Hid.ret ?_; (conv => whnf); rotate_left; refine SCond.n (by assumption) ?_; (conv => whnf); refine SCond.n (by assumption) ?_; (conv => whnf); refine SPick.n (by assumption) ?_; (conv => whnf); refine SCond.n (by exact rfl) ?_; (conv => whnf); refine SCond.n (by exact rfl) ?_
  (conv => whnf); refine SCond.n (by exact rfl) ?_; (conv => whnf); refine SPick.n (by exact rfl) ?_; (conv => whnf); refine SCond.n (by exact rfl) ?_; (conv => whnf); refine SCond.n (by exact rfl) ?_; (conv => whnf); refine SCond.n (by exact rfl) ?_; (conv => whnf); refine SCond.n (by exact rfl) ?_; (conv => whnf); refine SPick.n (by exact rfl) ?_; (conv => whnf); refine Hid.seq ?_
  refine Hid.reg ?_; (conv => whnf); refine SCond.n (by exact rfl) ?_; (conv => whnf); refine SPick.n (by exact rfl) ?_; (conv => whnf); refine SCond.n (by exact rfl) ?_; (conv => whnf); refine SCond.n (by exact rfl) ?_; (conv => whnf); refine SCond.n (by exact rfl) ?_; (conv => whnf); refine SCond.n (by exact rfl) ?_; (conv => whnf); refine SPick.n (by exact rfl) ?_; (conv => whnf)
  refine SCond.n (by exact rfl) ?_; (conv => whnf); refine SCond.n (by exact rfl) ?_; (conv => whnf); refine SCond.n (by exact rfl) ?_; (conv => whnf); refine SCond.n (by exact rfl) ?_; (conv => whnf); refine SPick.n (by exact rfl) ?_; (conv => whnf); refine Hid.ret ?_; (conv => whnf); rotate_left; refine SCond.n (by assumption) ?_; (conv => whnf); refine SCond.n (by assumption) ?_; (conv => whnf)
  refine SPick.n (by assumption) ?_; (conv => whnf); refine SCond.n (by exact rfl) ?_; (conv => whnf); refine SCond.n (by exact rfl) ?_; (conv => whnf); refine SCond.n (by exact rfl) ?_; (conv => whnf); refine SPick.n (by exact rfl) ?_; (conv => whnf); refine SCond.n (by exact rfl) ?_; (conv => whnf); refine SCond.n (by exact rfl) ?_; (conv => whnf); refine SCond.n (by exact rfl) ?_; (conv => whnf)
  refine SPick.n (by exact rfl) ?_; (conv => whnf); refine SCond.n (by exact rfl) ?_; (conv => whnf); refine SCond.n (by exact rfl) ?_; (conv => whnf); refine SCond.n (by exact rfl) ?_; (conv => whnf); refine SCond.n (by exact rfl) ?_; (conv => whnf); refine SPick.n (by exact rfl) ?_; (conv => whnf); refine Hid.seq ?_; refine Hid.reg ?_; (conv => whnf); refine SCond.n (by exact rfl) ?_
  (conv => whnf); refine SPick.n (by exact rfl) ?_; (conv => whnf); refine SCond.n (by exact rfl) ?_; (conv => whnf); refine SCond.n (by exact rfl) ?_; (conv => whnf); refine SCond.n (by exact rfl) ?_; (conv => whnf); refine SCond.n (by exact rfl) ?_; (conv => whnf); refine SPick.n (by exact rfl) ?_; (conv => whnf); refine SCond.n (by exact rfl) ?_; (conv => whnf); refine SCond.n (by exact rfl) ?_
  (conv => whnf); refine SCond.n (by exact rfl) ?_; (conv => whnf); refine SCond.n (by exact rfl) ?_; (conv => whnf); refine SPick.n (by exact rfl) ?_; (conv => whnf); refine Hid.ret ?_; (conv => whnf); rotate_left
  all_goals
    refine .p (.refl _) (congrArg AV.bool ?_); clear h1 h2 h3 hx
    rw [fieldsT, Bool.eq_iff_iff]
    simp only [btw]
    first
      | (simp_all; done)
      | (simp_all; omega)
end Go.Proofs.YtgliemhhnkhboaaGreatDoor
end
section
set_option linter.unusedVariables false
set_option linter.unusedSimpArgs false
set_option maxRecDepth 100000
set_option maxHeartbeats 2000000
namespace Go.Proofs.YtgliemhhnkhboaaGreatDoor
open Go.Al Go.RowKit
def idxI (n : Int) : List Int → Nat → Int
  | [], _ => -1
  | x :: l, k => if n = x then k else idxI n l (k + 1)
theorem idxI_mem (n : Int) : ∀ (l : List Int) (k : Nat), decide (0 ≤ idxI n l k) = decide (n ∈ l)
  | [], k => by simp [idxI]
  | x :: l, k => by
    rw [idxI]
    by_cases h : n = x
    · simp [h]
    · rw [if_neg h, idxI_mem n l (k + 1)]; simp [h]
theorem index_ints (w0 : Base) (l : List Int) (t : Tok) (n : Int) (hl : l.length ≤ 17592186043904) : CallP Tryz.prog w0 56 [.slc 1 (l.map (.int .i64)) t, .int .i64 n] (.int .i64 (idxI n l 0)) := by
  refine CallP.h Ty.tok Ty.mixed Tryz.func56 rfl Tryz.ntmps56 rfl (by simp) (by decide +kernel) fun σ => ?_
  (conv => whnf); refine Hid.seq ?_; refine Hid.reg ?_; (conv => whnf); refine Hid.seq ?_; refine Hid.seq ?_; refine Hid.reg ?_; (conv => whnf); refine Hid.block ?_; refine Hid.loop ?_
  skip
  refine SLoop.by Ty.mixed (fun i : Nat => l.length - i) (fun i => [(0, .slc 1 (l.map (.int .i64)) t), (1, .int .i64 n), (7, .int .i64 l.length), (8, .int .i64 i)]) (fun _ => []) (fun i τ => i ≤ l.length ∧ idxI n (l.drop i) i = idxI n l 0 ∧ τ = σ) 0 ⟨?_, .none _, Nat.zero_le _, rfl, rfl⟩ ?_
  · show xWeak [(0, .slc 1 (l.map (.int .i64)) t), (1, .int .i64 n), (7, .int .i64 l.length), (8, .int .i64 (0 : Nat))] _
    rw [show l.length = (l.map (AV.int .i64)).length by simp]
    repeat (first | exact trivial | refine ⟨by first | trivial | exact Weak.refl _ | exact Weak.tok _ _ _ | exact Weak.of_eq (congrArg (AV.int _) (by omega)) | exact Weak.of_eq (congrArg AV.bool (by fail)) | exact Weak.nils _ _ (.inr rfl), ?_⟩)
  rintro i τ ⟨hi, hd, rfl⟩; refine Xc_h ?_; (conv => whnf); refine Hid.seq ?_; refine Hid.reg ?_; (conv => whnf); refine Hid.seq ?_; refine Hid.cond rfl ?_
  skip
  refine SIf.x Ty.mixed (fun hc => ?_) (fun hc => ?_); refine Xc_h ?_; (conv => whnf); refine Hid.skip ?_; (conv => whnf); refine Hid.seq ?_; refine Hid.seq ?_; refine Hid.reg ?_; (conv => whnf); refine Hid.seq ?_; refine Hid.reg ?_; (conv => whnf); rotate_left; refine Xc_h ?_; (conv => whnf); refine Hid.exit ?_; (conv => whnf); refine Hid.seq ?_; refine Hid.reg ?_; (conv => whnf)
  refine Hid.ret ?_; (conv => whnf)
  rotate_right
  · have hlt : i < l.length := by simp at hc; omega
    have ga : (l.map (AV.int .i64))[i]? = some (.int .i64 l[i]) := by simp [hlt]
    have hln : (l.map (AV.int .i64)).length = l.length := by simp
    rw [List.drop_eq_getElem_cons hlt, idxI] at hd
    generalize l[i] = x at *
    refine ⟨_, ⟨by first | omega | (simp only [List.length_map]; omega), by exact ga⟩, ?_⟩
    (conv => whnf); refine Hid.cond rfl ?_; refine SIf.x Ty.mixed (fun hc => ?_) (fun hc => ?_); refine Xc_h ?_; (conv => whnf); refine Hid.seq ?_; refine Hid.reg ?_; (conv => whnf); refine Hid.ret ?_; (conv => whnf); rotate_left; refine Xc_h ?_; (conv => whnf); refine Hid.skip ?_; (conv => whnf); refine Hid.reg ?_; (conv => whnf)
    rotate_right
    · have he : n = x := by simpa using hc
      rw [if_pos he] at hd
      skip
      exact .p (.refl _) (by rw [hd])
    · have he : ¬ n = x := by simpa using hc
      rw [if_neg he] at hd
      refine ⟨_, IntWalk.i64_in _ (by omega), ?_⟩; (conv => whnf)
      exact ⟨i + 1, by omega, by repeat (first | exact trivial | refine ⟨by first | trivial | exact Weak.refl _ | exact Weak.tok _ _ _ | exact Weak.of_eq (congrArg (AV.int _) (by omega)) | exact Weak.of_eq (congrArg AV.bool (by fail)) | exact Weak.nils _ _ (.inr rfl), ?_⟩), .none _, hlt, hd, rfl⟩
  · have hge : i = l.length := by simp at hc; omega
    subst hge
    rw [List.drop_length, idxI] at hd
    skip
    exact .p (.refl _) (by rw [← hd])
theorem contains_ints (w0 : Base) (l : List Int) (t : Tok) (n : Int) (hl : l.length ≤ 17592186043904) : CallP Tryz.prog w0 36 [.slc 1 (l.map (.int .i64)) t, .int .i64 n] (.bool (decide (n ∈ l))) := by
  refine CallP.h Ty.tok Ty.mixed Tryz.func36 rfl Tryz.ntmps36 rfl (by simp) (by decide +kernel) fun σ => ?_
  (conv => whnf); refine Hid.seq ?_; refine Hid.reg ?_; (conv => whnf); refine Hid.seq ?_; refine Hid.reg ?_; (conv => whnf); refine SCall.p (by exact index_ints w0 l t n hl) ?_; (conv => whnf); refine Hid.ret ?_; (conv => whnf); exact .p (.refl _) (by rw [idxI_mem])
def goodA (next : Int) : Int → List Int → Bool
  | _, [] => true
  | last, n :: l => btw n (last + 1) (next - 1) && goodA next n l
def goodQ (acks : List Int) (most lease clock next : Int) : Int → List Msg → Bool
  | _, [] => true
  | last, m :: l => (btw m.seq (last + 1) (next - 1) && (!decide (m.seq ∈ acks) && msgT m most lease clock)) && goodQ acks most lease clock next m.seq l
def goodT (x : Sub) (clock next : Int) : Bool := fieldsT x next && (goodA next x.floor x.acks && goodQ x.acks x.most x.lease clock next x.floor x.queue)
theorem fieldsT_of {x : Sub} {next : Int} (h : fieldsT x next = true) : (1 ≤ x.lease ∧ x.lease ≤ 1000) ∧ (1 ≤ x.most ∧ x.most ≤ 9) ∧ 0 ≤ x.floor ∧ x.floor < next := by
  simp only [fieldsT, btw, Bool.and_eq_true, decide_eq_true_eq] at h
  omega
theorem good_any (w0 : Base) (x : Sub) (clock next : Int) (hx : Small x) (hn : next ≤ 9223372036854775807) (hck : -4611686018427387904 ≤ clock ∧ clock ≤ 4611686018427387904) : CallP Tryz.prog w0 18 [eSub x, .int .i64 clock, .int .i64 next] (.bool (goodT x clock next)) := by
  refine CallP.h Ty.tok Ty.mixed Tryz.func18 rfl Tryz.ntmps18 rfl (by simp) (by decide +kernel) fun σ => ?_
  (conv => whnf); refine Hid.seq ?_; refine Hid.reg ?_; (conv => whnf); refine SBox.f ?_; (conv => whnf); refine Hid.seq ?_; refine Hid.seq ?_; refine Hid.reg ?_; (conv => whnf); refine SCall.p (by exact fields_any w0 x next hx) ?_; (conv => whnf); refine Hid.cond rfl ?_
  cases hf : fieldsT x next with
  | false =>
    refine SIf.y Ty.mixed rfl ?_; refine Xc_h ?_; (conv => whnf); refine Hid.seq ?_; refine Hid.reg ?_; (conv => whnf); refine Hid.ret ?_; (conv => whnf)
    skip
    exact .p (.refl _) (by rw [goodT, hf]; rfl)
  | true =>
    refine SIf.n Ty.mixed rfl ?_
    obtain ⟨hl, hm, hf0, hfn⟩ := fieldsT_of hf
    refine Xc_h ?_; (conv => whnf); refine Hid.skip ?_; (conv => whnf); refine Hid.seq ?_; refine Hid.reg ?_; (conv => whnf); refine Hid.seq ?_; refine Hid.seq ?_; refine Hid.reg ?_; (conv => whnf); refine Hid.block ?_; refine Hid.loop ?_
    skip
    refine SLoop.by Ty.mixed (fun ((i, last) : Nat × Int) => x.acks.length - i) (fun (i, last) => [(1, .int .i64 clock), (2, .int .i64 next), (3, .vp (eSub x)), (7, .int .i64 last), (19, eInts x.acks), (20, .int .i64 x.acks.length), (21, .int .i64 i)]) (fun _ => []) (fun (i, last) τ => i ≤ x.acks.length ∧ (0 ≤ last ∧ last < next) ∧ goodA next last (x.acks.drop i) = goodA next x.floor x.acks ∧ τ = σ) (0, x.floor) ⟨?_, .none _, Nat.zero_le _, ⟨hf0, hfn⟩, rfl, rfl⟩ ?_
    · show xWeak [(1, .int .i64 clock), (2, .int .i64 next), (3, .vp (eSub x)), (7, .int .i64 x.floor), (19, eInts x.acks), (20, .int .i64 x.acks.length), (21, .int .i64 (0 : Nat))] _
      rw [show x.acks.length = (x.acks.map (AV.int .i64)).length by simp]
      repeat (first | exact trivial | refine ⟨by first | trivial | exact Weak.refl _ | exact Weak.tok _ _ _ | exact Weak.of_eq (congrArg (AV.int _) (by omega)) | exact Weak.of_eq (congrArg AV.bool (by fail)) | exact Weak.nils _ _ (.inr rfl), ?_⟩)
    have hna := hx.nacks
    have hnq := hx.nqueue
    rintro ⟨i, last⟩ τ ⟨hi, ⟨hl0, hln⟩, hd, rfl⟩; refine Xc_h ?_; (conv => whnf); refine Hid.seq ?_; refine Hid.reg ?_; (conv => whnf); refine Hid.seq ?_; refine Hid.cond rfl ?_
    skip
    refine SIf.x Ty.mixed (fun hc => ?_) (fun hc => ?_); refine Xc_h ?_; (conv => whnf); refine Hid.skip ?_; (conv => whnf); refine Hid.seq ?_; refine Hid.seq ?_; refine Hid.reg ?_; (conv => whnf); rotate_left; refine Xc_h ?_; (conv => whnf); refine Hid.exit ?_; (conv => whnf); refine Hid.seq ?_; refine Hid.reg ?_; (conv => whnf); refine Hid.seq ?_; refine Hid.seq ?_; refine Hid.reg ?_
    (conv => whnf); refine Hid.block ?_; refine Hid.loop ?_
    rotate_right
    · have hlt : i < x.acks.length := by simp at hc; omega
      have ga : (x.acks.map (AV.int .i64))[i]? = some (.int .i64 x.acks[i]) := by simp [hlt]
      rw [List.drop_eq_getElem_cons hlt, goodA] at hd
      generalize x.acks[i] = n at *
      refine ⟨_, ⟨by first | omega | (simp only [List.length_map]; omega), by exact ga⟩, ?_⟩
      (conv => whnf); refine Hid.seq ?_; refine Hid.seq ?_; refine Hid.reg ?_; (conv => whnf); refine ⟨_, IntWalk.i64_in _ (by omega), ?_⟩; (conv => whnf); refine ⟨_, IntWalk.i64_in _ (by omega), ?_⟩; (conv => whnf); refine SCall.p (by exact between_any w0 _ _ _) ?_; (conv => whnf); refine Hid.cond rfl ?_
      cases hb : (decide (last + 1 ≤ n) && decide (n ≤ next - 1)) with
      | false =>
        refine SIf.y Ty.mixed rfl ?_; refine Xc_h ?_; (conv => whnf); refine Hid.seq ?_; refine Hid.reg ?_; (conv => whnf); refine Hid.ret ?_; (conv => whnf)
        skip
        exact .p (.refl _) (by rw [goodT, ← hd, btw, hb]; simp)
      | true =>
        refine SIf.n Ty.mixed rfl ?_
        rw [btw, hb, Bool.true_and] at hd
        simp only [Bool.and_eq_true, decide_eq_true_eq] at hb
        refine Xc_h ?_; (conv => whnf); refine Hid.skip ?_; (conv => whnf); refine Hid.reg ?_; (conv => whnf); refine Hid.reg ?_; (conv => whnf); refine ⟨_, IntWalk.i64_in _ (by omega), ?_⟩; (conv => whnf)
        exact ⟨(i + 1, n), by show x.acks.length - (i + 1) < x.acks.length - i; omega, by repeat (first | exact trivial | refine ⟨by first | trivial | exact Weak.refl _ | exact Weak.tok _ _ _ | exact Weak.of_eq (congrArg (AV.int _) (by omega)) | exact Weak.of_eq (congrArg AV.bool (by fail)) | exact Weak.nils _ _ (.inr rfl), ?_⟩), .none _, hlt, ⟨by omega, by omega⟩, hd, rfl⟩
    · have hge : i = x.acks.length := by simp at hc; omega
      subst hge
      rw [List.drop_length] at hd
      have hA : goodA next x.floor x.acks = true := hd.symm
      clear hd hc hi hl0 hln
      skip
      refine SLoop.by Ty.mixed (fun ((i, last) : Nat × Int) => x.queue.length - i) (fun (i, last) => [(1, .int .i64 clock), (2, .int .i64 next), (3, .vp (eSub x)), (7, .int .i64 last), (37, eMsgs x.queue), (38, .int .i64 x.queue.length), (39, .int .i64 i)]) (fun _ => []) (fun (i, last) s => i ≤ x.queue.length ∧ (0 ≤ last ∧ last < next) ∧ goodQ x.acks x.most x.lease clock next last (x.queue.drop i) = goodQ x.acks x.most x.lease clock next x.floor x.queue ∧ St.Le τ s) (0, x.floor) ⟨?_, .none _, Nat.zero_le _, ⟨hf0, hfn⟩, rfl, .refl _⟩ ?_
      · show xWeak [(1, .int .i64 clock), (2, .int .i64 next), (3, .vp (eSub x)), (7, .int .i64 x.floor), (37, eMsgs x.queue), (38, .int .i64 x.queue.length), (39, .int .i64 (0 : Nat))] _
        rw [show x.queue.length = (x.queue.map eMsg).length by simp]
        repeat (first | exact trivial | refine ⟨by first | trivial | exact Weak.refl _ | exact Weak.tok _ _ _ | exact Weak.of_eq (congrArg (AV.int _) (by omega)) | exact Weak.of_eq (congrArg AV.bool (by fail)) | exact Weak.nils _ _ (.inr rfl), ?_⟩)
      rintro ⟨i, last⟩ s ⟨hi, ⟨hl0, hln⟩, hd, hle⟩; refine Xc_h ?_; (conv => whnf); refine Hid.seq ?_; refine Hid.reg ?_; (conv => whnf); refine Hid.seq ?_; refine Hid.cond rfl ?_
      skip
      refine SIf.x Ty.mixed (fun hc => ?_) (fun hc => ?_); refine Xc_h ?_; (conv => whnf); refine Hid.skip ?_; (conv => whnf); refine Hid.seq ?_; refine Hid.seq ?_; refine Hid.reg ?_; (conv => whnf); rotate_left; refine Xc_h ?_; (conv => whnf); refine Hid.exit ?_; (conv => whnf); refine Hid.seq ?_; refine Hid.reg ?_; (conv => whnf); refine Hid.ret ?_; (conv => whnf)
      rotate_right
      · have hlt : i < x.queue.length := by simp at hc; omega
        have ga : (x.queue.map eMsg)[i]? = some (eMsg x.queue[i]) := by simp [hlt]
        have hat := hx.attr _ (List.getElem_mem hlt)
        rw [List.drop_eq_getElem_cons hlt, goodQ] at hd
        generalize x.queue[i] = m at *
        refine ⟨_, ⟨by first | omega | (simp only [List.length_map]; omega), by exact ga⟩, ?_⟩
        (conv => whnf); intro b11 hb11; (conv => whnf); refine SStore.on 0 rfl ?_; (conv => whnf); refine Hid.seq ?_; refine Hid.seq ?_; refine Hid.reg ?_; (conv => whnf); refine SLoad.on 0 rfl ?_; (conv => whnf); refine ⟨_, IntWalk.i64_in _ (by omega), ?_⟩; (conv => whnf); refine ⟨_, IntWalk.i64_in _ (by omega), ?_⟩; (conv => whnf); refine SCall.p (by exact between_any w0 _ _ _) ?_; (conv => whnf)
        refine SCond.mk (fun hc => ?_) (fun hc => ?_); (conv => whnf); rotate_left; (conv => whnf)
        rotate_right
        refine SCond.y (by assumption) ?_; (conv => whnf); refine SCond.y (by assumption) ?_; (conv => whnf); refine SCond.y (by assumption) ?_; (conv => whnf); refine SCond.y (by assumption) ?_; (conv => whnf); refine SPick.y (by assumption) ?_; (conv => whnf); refine SCond.y (by exact rfl) ?_; (conv => whnf); refine SCond.y (by exact rfl) ?_; (conv => whnf); refine SCond.y (by exact rfl) ?_
        (conv => whnf); refine SCond.y (by exact rfl) ?_; (conv => whnf); refine SCond.y (by exact rfl) ?_; (conv => whnf); refine SPick.y (by exact rfl) ?_; (conv => whnf); refine Hid.cond rfl ?_; refine SIf.y Ty.mixed (by exact rfl) ?_; refine Xc_h ?_; (conv => whnf); refine Hid.seq ?_; refine Hid.reg ?_; (conv => whnf); refine Hid.ret ?_; (conv => whnf); rotate_left
        refine SCond.n (by assumption) ?_; (conv => whnf); refine SCond.n (by assumption) ?_; (conv => whnf); refine SCond.n (by assumption) ?_; (conv => whnf); refine SLoad.on 0 rfl ?_; (conv => whnf); refine SCond.n (by assumption) ?_; (conv => whnf); refine SCall.p (by exact contains_ints w0 _ _ _ hna) ?_; (conv => whnf); refine SPick.n (by assumption) ?_; (conv => whnf)
        refine SCond.mk (fun hc => ?_) (fun hc => ?_); (conv => whnf); rotate_left; (conv => whnf)
        rotate_right
        refine SCond.y (by assumption) ?_; (conv => whnf); refine SCond.y (by assumption) ?_; (conv => whnf); refine SCond.y (by assumption) ?_; (conv => whnf); refine SCond.y (by assumption) ?_; (conv => whnf); refine SPick.y (by assumption) ?_; (conv => whnf); refine Hid.cond rfl ?_; refine SIf.y Ty.mixed (by exact rfl) ?_; refine Xc_h ?_; (conv => whnf); refine Hid.seq ?_; refine Hid.reg ?_
        (conv => whnf); refine Hid.ret ?_; (conv => whnf); rotate_left; refine SLoad.on 0 rfl ?_; (conv => whnf); refine SCond.n (by assumption) ?_; (conv => whnf); refine SCond.n (by assumption) ?_; (conv => whnf); refine SCond.n (by assumption) ?_; (conv => whnf); refine SCall.p (by exact message_any w0 m x clock hat hm hl hck) ?_; (conv => whnf); refine SCond.n (by assumption) ?_; (conv => whnf)
        refine SPick.n (by assumption) ?_; (conv => whnf); refine Hid.cond rfl ?_; refine SIf.x Ty.mixed (fun hc => ?_) (fun hc => ?_); refine Xc_h ?_; (conv => whnf); refine Hid.seq ?_; refine Hid.reg ?_; (conv => whnf); refine Hid.ret ?_; (conv => whnf); rotate_left; refine Xc_h ?_; (conv => whnf); refine Hid.skip ?_; (conv => whnf); refine Hid.reg ?_; (conv => whnf)
        rotate_right
        rotate_left; refine SLoad.on 0 rfl ?_; (conv => whnf); refine Hid.reg ?_; (conv => whnf); refine ⟨_, IntWalk.i64_in _ (by omega), ?_⟩; (conv => whnf); rotate_left
        all_goals
          rw [btw] at hd
          generalize hq1 : (decide (last + 1 ≤ m.seq) && decide (m.seq ≤ next - 1)) = q1 at *
          generalize decide (m.seq ∈ x.acks) = q2 at *
          generalize msgT m x.most x.lease clock = q3 at *
          first
            | (have hb : (q1 && (!q2 && q3)) = false := by
                 clear hd hx hn hck hf hl hm hf0 hfn hna hnq hA hi hl0 hln hle hlt ga hat hq1 hb11
                 cases q1 <;> cases q2 <;> cases q3 <;> simp_all
               rw [hb, Bool.false_and] at hd
               exact .p (le_new2 hle hb11) (by rw [goodT, hf, hA, ← hd]; rfl))
            | (have hb : (q1 && (!q2 && q3)) = true := by
                 clear hd hx hn hck hf hl hm hf0 hfn hna hnq hA hi hl0 hln hle hlt ga hat hq1 hb11
                 cases q1 <;> cases q2 <;> cases q3 <;> simp_all
               rw [hb, Bool.true_and] at hd
               obtain rfl : q1 = true := by
                 cases q1
                 · cases hb
                 · rfl
               simp only [Bool.and_eq_true, decide_eq_true_eq] at hq1
               exact ⟨(i + 1, m.seq), by show x.queue.length - (i + 1) < x.queue.length - i; omega, by repeat (first | exact trivial | refine ⟨by first | trivial | exact Weak.refl _ | exact Weak.tok _ _ _ | exact Weak.of_eq (congrArg (AV.int _) (by omega)) | exact Weak.of_eq (congrArg AV.bool (by fail)) | exact Weak.nils _ _ (.inr rfl), ?_⟩), .none _, hlt, ⟨by omega, by omega⟩, hd, le_new2 hle hb11⟩)
      · have hge : i = x.queue.length := by simp at hc; omega
        subst hge
        rw [List.drop_length] at hd
        skip
        exact .p hle (by rw [goodT, hf, hA, ← hd]; rfl)
end Go.Proofs.YtgliemhhnkhboaaGreatDoor
end
section
set_option linter.unusedVariables false
set_option linter.unusedSimpArgs false
set_option maxRecDepth 100000
set_option maxHeartbeats 2000000
namespace Go.Proofs.YtgliemhhnkhboaaGreatDoor
open Go.Al Go.RowKit
def subA (x : Sub) (v : AV) : AV := .agg [.int .i64 x.id, .str x.name, .str x.topic, .str x.want, .int .i64 x.lease, .int .i64 x.most, .int .i64 x.floor, v, eMsgs x.queue, .str x.note]
end Go.Proofs.YtgliemhhnkhboaaGreatDoor
end
section
set_option linter.unusedVariables false
set_option linter.unusedSimpArgs false
set_option maxRecDepth 100000
set_option maxHeartbeats 2000000
namespace Go.Proofs.YtgliemhhnkhboaaGreatDoor
open Go.Al Go.RowKit
def ints (l : List Int) : List AV := l.map (.int .i64)
def idxP (fl : Int) : List Int → Nat → Int
  | [], _ => -1
  | x :: l, k => if x ≤ fl then k else idxP fl l (k + 1)
def over (fl : Int) (l : List Int) : List Int := l.filter fun n => !decide (n ≤ fl)
end Go.Proofs.YtgliemhhnkhboaaGreatDoor
end
section
set_option linter.unusedVariables false
set_option linter.unusedSimpArgs false
set_option maxRecDepth 100000
set_option maxHeartbeats 2000000
namespace Go.Proofs.YtgliemhhnkhboaaGreatDoor
open Go.Al Go.RowKit
def headN (x : Sub) (next : Int) : Int := match x.queue with
  | [] => next
  | m :: _ => m.seq
def settleF (x : Sub) (next : Int) : Int := max x.floor (IntKind.i64.wrap (headN x next - 1))
def settleS (x : Sub) (next : Int) : Sub := { x with floor := settleF x next, acks := over (settleF x next) x.acks }
end Go.Proofs.YtgliemhhnkhboaaGreatDoor
end
section
set_option linter.unusedVariables false
set_option linter.unusedSimpArgs false
set_option maxRecDepth 100000
set_option maxHeartbeats 2000000
namespace Go.Proofs.YtgliemhhnkhboaaGreatDoor
open Go.Al Go.RowKit
structure Stt where
  clock : Int
  next : Int
  last : Int
  subs : List Sub
def eSubs (l : List Sub) : AV := .slc 10 (l.map eSub) .no
def eStt (s : Stt) : AV := .agg [.int .i64 s.clock, .int .i64 s.next, .int .i64 s.last, eSubs s.subs]
structure Fine (l : List Sub) : Prop where
  n : l.length ≤ 977343669120
  a : ∀ x ∈ l, x.acks.length ≤ 17592186043904
  q : ∀ x ∈ l, x.queue.length ≤ 1599289640354
def findR (o : Option Sub) : AV := match o with
  | some x => .tup [eSub x, .bool true]
  | none => .tup [eSub sub0, .bool false]
theorem wo_take {l : List Sub} {i : Nat} {x : Sub} (id : Int) (h : l[i]? = some x) : wo (l.take (i + 1)) id = if x.id = id then wo (l.take i) id else wo (l.take i) id ++ [x] := by
  obtain ⟨hi, e⟩ := List.getElem?_eq_some_iff.1 h
  rw [List.take_succ_eq_append_getElem hi, e, wo, List.filter_append]
  by_cases hx : x.id = id
  · rw [if_pos hx]; simp [wo, hx]
  · rw [if_neg hx]; simp [wo, hx]
def woV (s : Stt) (id : Int) (o : Option (Nat × Nat)) : AV := .agg [.int .i64 s.clock, .int .i64 s.next, .int .i64 s.last, ownV ((wo s.subs id).map eSub).length o]
theorem wo_len (l : List Sub) (id : Int) : (wo l id).length ≤ l.length := List.length_filter_le _ _
def wr (l : List Sub) (id : Int) (i : Nat) : List AV := (wo (l.take i) id).map eSub
theorem wr_all (l : List Sub) (id : Int) : (wo l id).map eSub = wr l id l.length := by rw [wr, List.take_length]
end Go.Proofs.YtgliemhhnkhboaaGreatDoor
end
section
set_option linter.unusedVariables false
set_option linter.unusedSimpArgs false
set_option maxRecDepth 100000
set_option maxHeartbeats 2000000
namespace Go.Proofs.YtgliemhhnkhboaaGreatDoor
open Go.Al Go.RowKit
def idxS (id : Int) : List Sub → Nat → Int
  | [], _ => -1
  | y :: l, k => if id < y.id then k else idxS id l (k + 1)
def sc (l : List Sub) : List AV := (l.map eSub).flatMap AV.cells
end Go.Proofs.YtgliemhhnkhboaaGreatDoor
end
section
set_option linter.unusedVariables false
set_option linter.unusedSimpArgs false
set_option maxRecDepth 100000
set_option maxHeartbeats 2000000
namespace Go.Proofs.YtgliemhhnkhboaaGreatDoor
open Go.Al Go.RowKit
def insR (l : List Sub) (i : Nat) (x : Sub) : List AV := (l.take i ++ x :: l.drop i).map eSub
theorem Grw.fresh {σ0 σ : St} {ys : List AV} {sz b cap : Nat} (hle : St.Le σ0 σ) (hb : σ.box b = none) (hsz : ∀ y ∈ ys, y.cells.length = sz) (hc : ys.length ≤ cap) : Grw σ0 (σ.setBox b (ys.flatMap AV.cells ++ List.replicate ((cap - ys.length) * sz) .und)) ys sz (some (b, cap)) :=
  ⟨le_new hle hb, le_none hle hb, ⟨_, setBox_same, by
    rw [List.length_append, flat_len hsz, List.length_replicate, ← Nat.add_mul, Nat.add_sub_cancel' hc]; exact Nat.le_refl _⟩, hc⟩
end Go.Proofs.YtgliemhhnkhboaaGreatDoor
end
section
set_option linter.unusedVariables false
set_option linter.unusedSimpArgs false
set_option maxRecDepth 100000
set_option maxHeartbeats 2000000
namespace Go.Proofs.YtgliemhhnkhboaaGreatDoor
open Go.Al Go.RowKit
theorem Fine.wo {l : List Sub} (h : Fine l) (id : Int) : Fine (wo l id) := ⟨Nat.le_trans (wo_len l id) h.n, fun x hx => h.a x (mem_wo.1 hx).1, fun x hx => h.q x (mem_wo.1 hx).1⟩
end Go.Proofs.YtgliemhhnkhboaaGreatDoor
end
section
set_option linter.unusedVariables false
set_option linter.unusedSimpArgs false
set_option maxRecDepth 100000
set_option maxHeartbeats 4000000
namespace Go.Proofs.YtgliemhhnkhboaaGreatDoor
open Go.Al Go.RowKit
instance : FlatEq Tryz.prog 49 := ⟨⟨_, Tryz.underlying49⟩, by kernel_rfl, by kernel_rfl⟩
end Go.Proofs.YtgliemhhnkhboaaGreatDoor
end
section
set_option linter.unusedVariables false
set_option linter.unusedSimpArgs false
set_option maxRecDepth 100000
set_option maxHeartbeats 2000000
namespace Go.Proofs.YtgliemhhnkhboaaGreatDoor
open Go.Al Go.RowKit
end Go.Proofs.YtgliemhhnkhboaaGreatDoor
end
section
set_option linter.unusedVariables false
set_option linter.unusedSimpArgs false
set_option maxRecDepth 100000
set_option maxHeartbeats 2000000
namespace Go.Proofs.YtgliemhhnkhboaaGreatDoor
open Go.Al Go.RowKit
end Go.Proofs.YtgliemhhnkhboaaGreatDoor
end
section
set_option linter.unusedVariables false
set_option linter.unusedSimpArgs false
set_option maxRecDepth 100000
namespace Go.Proofs.YtgliemhhnkhboaaGreatDoor
open Go.Al
theorem pcs_none {c : UInt8} : ∀ {l : List UInt8}, (∀ b ∈ l, b ≠ c) → pcs c l = [l]
  | [], _ => rfl
  | b :: l, h => by rw [pcs, if_neg (h b (by simp)), pcs_none fun d hd => h d (by simp [hd])]
theorem ix_none {c : UInt8} : ∀ {l : List UInt8}, (∀ b ∈ l, b ≠ c) → Lib.indexByte l c = -1
  | [], _ => rfl
  | b :: l, h => by
    have := h b (by simp)
    rw [Lib.indexByte, if_neg (by simpa using this), ix_none fun d hd => h d (by simp [hd])]; rfl
theorem low_word {l : List UInt8} (h : ∀ b ∈ l, 97 ≤ b.toNat ∧ b.toNat ≤ 122) (h0 : l ≠ []) : wordS l = true := by
  rw [wordS, Bool.and_eq_true, List.all_eq_true]
  exact ⟨fun b hb => by have := h b hb; simp [wordB, this], by simpa using h0⟩
theorem low_name {l : List UInt8} (h : ∀ b ∈ l, 97 ≤ b.toNat ∧ b.toNat ≤ 122) (h0 : l ≠ []) (hl : l.length ≤ 20) : nameT l = true := by
  have hn : ∀ b ∈ l, b ≠ 47 := fun b hb e => by have := h b hb; rw [e] at this; simp at this
  rw [nameT, rightT, pcs_none hn, ix_none hn]
  simp [low_word h h0, hl]; omega
theorem topic_pat {v : List UInt8} (h : TopicOk v) : patT v = true := by rcases h with rfl | rfl | rfl | rfl <;> decide
theorem want_attrs {v : List UInt8} (h : WantOk v) : attrsT v = true := by rcases h with rfl | rfl | rfl <;> decide
theorem attr_attrs {v : List UInt8} (h : v = [] ∨ v = [97, 61, 49] ∨ v = [98, 61, 50]) : attrsT v = true := by rcases h with rfl | rfl | rfl <;> decide
theorem letter_low (k i : Nat) : 97 ≤ (letter k i).toNat ∧ (letter k i).toNat ≤ 122 := by
  have h : (97 + (i + k) % 26) < 256 := by omega
  have e : (letter k i).toNat = 97 + (i + k) % 26 := by
    simp only [letter]
    rw [UInt8.toNat_ofNat']
    exact Nat.mod_eq_of_lt h
  rw [e]; omega
theorem Grown.nameOk {id clock next : Nat} {x : Sub} (h : Grown id clock next x) : nameT x.name = true := by
  obtain ⟨k, hk, e⟩ := h.name
  refine low_name (fun b hb => ?_) (by rw [e]; simp) h.nlen
  rw [e] at hb
  rcases List.mem_cons.1 hb with rfl | hb
  · decide
  · obtain ⟨i, _, rfl⟩ := List.mem_map.1 hb
    exact letter_low k i
theorem goodA_of {next : Int} : ∀ {l : List Int} {last : Int}, Rise last l → (∀ a ∈ l, a < next) → goodA next last l = true
  | [], _, _, _ => rfl
  | a :: l, last, h, hh => by
    have := hh a (by simp)
    have h1 := h.1
    rw [goodA, goodA_of h.2 fun b hb => hh b (by simp [hb]), Bool.and_true, btw]
    simp; omega
theorem goodQ_of {acks : List Int} {most lease clock next : Int} : ∀ {l : List Msg} {last : Int}, Rise last (l.map Msg.seq) → (∀ m ∈ l, m.seq < next) → (∀ m ∈ l, m.seq ∉ acks) → (∀ m ∈ l, msgT m most lease clock = true) → goodQ acks most lease clock next last l = true
  | [], _, _, _, _, _ => rfl
  | m :: l, last, h, hh, ha, hm => by
    have h2 := hh m (by simp)
    have h1 : last < m.seq := h.1
    rw [goodQ, goodQ_of h.2 (fun b hb => hh b (by simp [hb])) (fun b hb => ha b (by simp [hb])) (fun b hb => hm b (by simp [hb])), Bool.and_true, hm m (by simp), btw]
    simp [ha m (by simp)]; omega
theorem MsgOk.msgT {clock most lease : Int} {m : Msg} (hc : 0 ≤ clock) (h : MsgOk clock most lease m) : msgT m most lease clock = true := by
  have h1 := h.body
  have h2 := attr_attrs h.attr
  have h3 := h.prio
  rw [Go.Proofs.YtgliemhhnkhboaaGreatDoor.msgT, h2]
  simp only [btw, h1, h3.1, h3.2, decide_true, Bool.and_self, Bool.true_and]
  rcases h.st with ⟨e1, e2, e3, e4, e5⟩ | ⟨e1, e2, ⟨e3, e4⟩, e5, e6⟩ | ⟨e1, e2, e3, e4⟩
  · simp [e1, e2, e3, e4]; omega
  · rw [if_neg (by simp [e1]), if_neg (by simp [e2])]
    rw [if_neg (by omega)]; simp [e3, e4, e5, e6]
  · rcases e4 with e4 | e4 <;> simp [e1, e2, e3, e4]
theorem Grown.good {id clock next : Nat} {x : Sub} (h : Grown id clock next x) (h1 : 1 ≤ id) (h2 : id ≤ 1073741824) : goodT x clock next = true := by
  have e1 := h.nameOk
  have e2 := topic_pat h.topic
  have e3 := want_attrs h.want
  have e4 := h.note
  have e5 := h.id
  have e6 := h.most
  have e7 := h.lease
  have e8 := h.floor
  have e9 := h.nacks
  have e10 := h.nqueue
  rw [goodT, goodA_of h.rise h.high, goodQ_of h.qrise h.qhigh (fun m hm hk => h.apart _ hk m hm rfl) (fun m hm => (h.msgs m hm).msgT (by omega)), fieldsT, e1, e2, e3]
  simp only [btw, Bool.true_and, Bool.and_true, Bool.and_eq_true, decide_eq_true_eq]
  omega
theorem Rise.filter {l : List Int} (p : Int → Bool) : ∀ {lo : Int}, Rise lo l → Rise lo (l.filter p) := by
  induction l with
  | nil => exact fun h => h
  | cons a l ih =>
    intro lo h
    rw [List.filter_cons]
    split
    · exact ⟨h.1, ih h.2⟩
    · refine ih ?_
      have h1 := h.1
      have h2 := h.2
      cases l with
      | nil => trivial
      | cons b l => exact ⟨by have := h2.1; omega, h2.2⟩
theorem Rise.up : ∀ {l : List Int} {lo hi : Int}, Rise lo l → (∀ a ∈ l, hi < a) → Rise hi l
  | [], _, _, _, _ => trivial
  | a :: l, lo, hi, h, k => ⟨k a (by simp), h.2⟩
end Go.Proofs.YtgliemhhnkhboaaGreatDoor
end
section
set_option linter.unusedVariables false
set_option linter.unusedSimpArgs false
namespace Go.Proofs.YtgliemhhnkhboaaGreatDoor
open Go.Al
def refPut (x : Sub) : List Sub → Bool → List Sub
  | [], laid => if laid = true then [] else [x]
  | y :: l, laid => if laid = false ∧ x.id < y.id then x :: y :: refPut x l true else y :: refPut x l laid
theorem refPut_true (x : Sub) : ∀ l, refPut x l true = l
  | [] => rfl
  | y :: l => by rw [refPut, if_neg (by simp), refPut_true x l]
theorem refPut_false (x : Sub) : ∀ l, refPut x l false = upto l x.id ++ x :: beyond l x.id
  | [] => rfl
  | y :: l => by
    by_cases h : x.id < y.id
    · rw [refPut, if_pos ⟨rfl, h⟩, refPut_true]
      simp [upto, beyond, h]
    · rw [refPut, if_neg (by simp [h]), refPut_false x l]
      have h' : y.id ≤ x.id := by omega
      simp [upto, beyond, h]
theorem putS_ref (l : List Sub) (x : Sub) : putS l x = refPut x (wo l x.id) false := by rw [refPut_false]; rfl
structure GrownS (ck nx ls : Nat) (s : Stt) : Prop where
  clock : s.clock = ck
  ckle : ck ≤ 2000
  next : s.next = nx
  nxle : 1 ≤ nx ∧ nx ≤ 100
  last : s.last = ls
  lsle : ls ≤ 7
  asc : Asc s.subs
  subs : ∀ x ∈ s.subs, ∃ id, Grown id ck nx x ∧ 1 ≤ id ∧ id ≤ ls
theorem asc_len {lo : Int} : ∀ {l : List Sub} {hi : Int}, Asc l → (∀ x ∈ l, lo < x.id ∧ x.id ≤ hi) → (l.length : Int) ≤ max 0 (hi - lo) := by
  intro l
  induction l generalizing lo with
  | nil => intro hi _ _; simp; omega
  | cons y l ih =>
    intro hi h hb
    have h1 := List.pairwise_cons.1 h
    have hy := hb y (by simp)
    have := ih (lo := y.id) (hi := hi) h1.2 fun x hx => ⟨h1.1 x hx, (hb x (by simp [hx])).2⟩
    rw [List.length_cons]
    omega
theorem GrownS.len {ck nx ls : Nat} {s : Stt} (h : GrownS ck nx ls s) : s.subs.length ≤ 7 := by
  have := asc_len (lo := 0) (hi := ls) h.asc fun x hx => by
    obtain ⟨id, hg, h1, h2⟩ := h.subs x hx
    rw [hg.id]; omega
  have := h.lsle
  omega
theorem GrownS.fine {ck nx ls : Nat} {s : Stt} (h : GrownS ck nx ls s) : Fine s.subs := ⟨by have := h.len; omega, fun x hx => by
  obtain ⟨id, hg, _⟩ := h.subs x hx
  have := hg.nacks; omega, fun x hx => by
  obtain ⟨id, hg, _⟩ := h.subs x hx
  have := hg.nqueue; omega⟩
theorem GrownS.put {ck nx ls id : Nat} {s : Stt} (h : GrownS ck nx ls s) {x : Sub} (hx : Grown id ck nx x) (h1 : 1 ≤ id) (h2 : id ≤ ls) : GrownS ck nx ls { s with subs := putS s.subs x } :=
  ⟨h.clock, h.ckle, h.next, h.nxle, h.last, h.lsle, h.asc.put x, fun y hy => by
    rcases mem_put.1 hy with rfl | ⟨hy, _⟩
    · exact ⟨id, hx, h1, h2⟩
    · exact h.subs y hy⟩
end Go.Proofs.YtgliemhhnkhboaaGreatDoor
end
section
set_option linter.unusedVariables false
namespace Go.Proofs.YtgliemhhnkhboaaGreatDoor
open Go.Al
def topicF (k : Nat) : List UInt8 := match k % 4 with
  | 0 => [35]
  | 1 => [97]
  | 2 => [97, 47, 43]
  | _ => [98, 47, 35]
def wantF (k : Nat) : List UInt8 := match k / 4 % 3 with
  | 0 => []
  | 1 => [97, 61, 49]
  | _ => [97, 61, 49, 44, 98, 61, 50]
def attrF (k : Nat) : List UInt8 := match k % 3 with
  | 0 => []
  | 1 => [97, 61, 49]
  | _ => [98, 61, 50]
def whyF (k : Nat) : List UInt8 := match k % 2 with
  | 0 => [110, 97, 99, 107]
  | _ => [116, 105, 109, 101]
def prioF (q2 : UInt8) : Int := if 128 < q2.toNat then IntKind.i64.wrap (q2.toNat : Int) % 10 else 0
def msgW (q1 q2 : UInt8) (seq : Int) : Msg := ⟨seq, textL q1.toNat 60, attrF q2.toNat, 0, 0, false, [], prioF q2⟩
def msgF (clock : Int) (q1 q2 q3 : UInt8) (seq : Int) (x : Sub) : Msg :=
  match q3.toNat % 4 with
  | 0 => { msgW q1 q2 seq with tries := IntKind.i64.wrap (q3.toNat : Int) % x.most }
  | 1 => { msgW q1 q2 seq with tries := 1 + IntKind.i64.wrap (q3.toNat : Int) % x.most, until_ := clock + 1 + IntKind.i64.wrap (q1.toNat : Int) % x.lease }
  | 2 => { msgW q1 q2 seq with dead := true, tries := x.most, why := whyF q1.toNat }
  | _ => msgW q1 q2 seq
def seqF (q0 : UInt8) (seq : Int) : Int := seq + (1 + IntKind.i64.wrap ((q0.toNat : Int) % 3))
def subL (clock next : Int) : Nat → List UInt8 → Int → Sub → Sub
  | n + 1, q0 :: q1 :: q2 :: q3 :: r, seq, x =>
    if next ≤ seqF q0 seq then x
    else if 200 < q0.toNat ∧ x.acks.length < 20 then subL clock next n r (seqF q0 seq) { x with acks := x.acks ++ [seqF q0 seq] }
    else if x.queue.length = 30 then x
    else subL clock next n r (seqF q0 seq) { x with queue := x.queue ++ [msgF clock q1 q2 q3 (seqF q0 seq) x] }
  | _, _, _, x => x
theorem subL_0 (clock next : Int) (l : List UInt8) (seq : Int) (x : Sub) : subL clock next 0 l seq x = x := by cases l <;> rfl
theorem subL_short (clock next : Int) (n : Nat) (l : List UInt8) (seq : Int) (x : Sub) (h : l.length < 4) : subL clock next n l seq x = x := by
  match n, l, h with
  | 0, _, _ => exact subL_0 _ _ _ _ _
  | n + 1, [], _ => rfl
  | n + 1, [_], _ => rfl
  | n + 1, [_, _], _ => rfl
  | n + 1, [_, _, _], _ => rfl
  | n + 1, _ :: _ :: _ :: _ :: _, h => exact absurd h (by simp only [List.length_cons]; omega)
theorem drop4 {c : List UInt8} {i : Nat} {q0 q1 q2 q3 : UInt8} (h0 : c[i]? = some q0) (h1 : c[i + 1]? = some q1) (h2 : c[i + 2]? = some q2) (h3 : c[i + 3]? = some q3) : c.drop i = q0 :: q1 :: q2 :: q3 :: c.drop (i + 4) := by
  have e : ∀ {j : Nat} {q : UInt8}, c[j]? = some q → c.drop j = q :: c.drop (j + 1) := fun {j q} h => by
    obtain ⟨hj, he⟩ := List.getElem?_eq_some_iff.1 h
    rw [List.drop_eq_getElem_cons hj, he]
  rw [e h0, e h1, e h2, e h3]
def sub1 (c : List UInt8) (id next : Int) : Sub := ⟨id, [110] ++ textL (gL c 0) 19, topicF (gL c 1), wantF (gL c 1), 1 + (gL c 2 : Int) * 3, 1 + (gL c 3 : Int) % 9, (gL c 4 : Int) % next, [], [], []⟩
def sub2 (c : List UInt8) (id next : Int) : Sub := if 120 < gL c 5 then { sub1 c id next with note := textL (gL c 5) 30 } else sub1 c id next
def subF (c : List UInt8) (id clock next : Int) : Sub := subL clock next 15 (c.drop 6) (sub2 c id next).floor (sub2 c id next)
end Go.Proofs.YtgliemhhnkhboaaGreatDoor
end
section
set_option linter.unusedVariables false
set_option linter.unusedSimpArgs false
set_option maxRecDepth 100000
set_option maxHeartbeats 400000
namespace Go.Proofs.YtgliemhhnkhboaaGreatDoor
open Go.Al Go.RowKit
end Go.Proofs.YtgliemhhnkhboaaGreatDoor
end
section
set_option linter.unusedVariables false
set_option linter.unusedSimpArgs false
set_option maxRecDepth 100000
set_option maxHeartbeats 1000000
namespace Go.Proofs.YtgliemhhnkhboaaGreatDoor
open Go.Al Go.RowKit
def preR (x : Sub) : List Row := if x.acks = [] then [] else [⟨rkey 3 97 x.id 0, acksB x⟩]
end Go.Proofs.YtgliemhhnkhboaaGreatDoor
end
section
set_option linter.unusedVariables false
set_option linter.unusedSimpArgs false
set_option maxRecDepth 100000
set_option maxHeartbeats 2000000
namespace Go.Proofs.YtgliemhhnkhboaaGreatDoor
open Go.Al Go.RowKit
def subC (x : Sub) (ta tq : Tok) : List AV := [.int .i64 x.id, .str x.name, .str x.topic, .str x.want, .int .i64 x.lease, .int .i64 x.most, .int .i64 x.floor, .slc 1 (x.acks.map (.int .i64)) ta, .slc 8 (x.queue.map eMsg) tq, .str x.note]
def msgC (m : Msg) : List AV := [.int .i64 m.seq, .str m.body, .str m.attr, .int .i64 m.tries, .int .i64 m.until_, .bool m.dead, .str m.why, .int .i64 m.prio]
theorem weak_sub (x : Sub) (ta tq : Tok) : Weak (eSub x) (.agg (subC x ta tq)) := .agg (.cons (.refl _) (.cons (.refl _) (.cons (.refl _) (.cons (.refl _) (.cons (.refl _) (.cons (.refl _) (.cons (.refl _) (.cons (.tok _ _ _) (.cons (.tok _ _ _) (.cons (.refl _) .nil)))))))))) (by simp [AV.one, eInts, eMsgs])
def z10 : List AV := [.int .i64 0, .str [], .str [], .str [], .int .i64 0, .int .i64 0, .int .i64 0, .nils, .nils, .str []]
structure InSub (σ s : St) (b8 bx : Nat) (x : Sub) (ta tq : Tok) : Prop where
  r : s.box b8 = some z10
  b : s.box bx = some (subC x ta tq)
  ma : Moves σ .full s ta
  mq : Moves σ .full s tq
  d : ∀ p, tq = .own p → ta ≠ .own p
theorem InSub.set {σ s : St} {b8 bx : Nat} {x x' : Sub} {ta tq : Tok} (h : InSub σ s b8 bx x ta tq) (hne : b8 ≠ bx) (hbx : σ.box bx = none) : InSub σ (s.setBox bx (subC x' ta tq)) b8 bx x' ta tq :=
  ⟨hb_ne hne h.r, setBox_same, h.ma.new hbx, h.mq.new hbx, h.d⟩
theorem InSub.other {σ s : St} {b8 bx b : Nat} {x : Sub} {ta tq : Tok} {cs : List AV} (h : InSub σ s b8 bx x ta tq) (h8 : b8 ≠ b) (hx : bx ≠ b) (hb : σ.box b = none) : InSub σ (s.setBox b cs) b8 bx x ta tq :=
  ⟨hb_ne h8 h.r, hb_ne hx h.b, h.ma.new hb, h.mq.new hb, h.d⟩
theorem InSub.acks {σ s σ1 : St} {b8 bx : Nat} {x x' : Sub} {ta tq tk : Tok} (h : InSub σ s b8 bx x ta tq) (hne : b8 ≠ bx) (hbx : σ.box bx = none) (hm : Moves s ta σ1 tk) : InSub σ (σ1.setBox bx (subC x' tk tq)) b8 bx x' tk tq := by
  obtain ⟨h1, h2, h3⟩ := Moves.two h.ma h.mq h.d hm
  exact ⟨hb_ne hne (hm.box _ _ h.r), setBox_same, h1.new hbx, h2.new hbx, h3⟩
theorem InSub.queue {σ s σ1 : St} {b8 bx : Nat} {x x' : Sub} {ta tq tk : Tok} (h : InSub σ s b8 bx x ta tq) (hne : b8 ≠ bx) (hbx : σ.box bx = none) (hm : Moves s tq σ1 tk) : InSub σ (σ1.setBox bx (subC x' ta tk)) b8 bx x' ta tk := by
  obtain ⟨h1, h2, h3⟩ := Moves.two h.mq h.ma (fun p e e' => h.d p e' e) hm
  exact ⟨hb_ne hne (hm.box _ _ h.r), setBox_same, h2.new hbx, h1.new hbx, fun p e e' => h3 p e' e⟩
theorem sub_any2 (w0 : Base) (c : List UInt8) (t : Tok) (id clock next : Nat) (hc : c.length ≤ 9223372036854775807) (hid : id ≤ 1000) (hclock : clock ≤ 100000000) (hnext : 1 ≤ next ∧ next ≤ 100000) (σ : St) :
    CallW Tryz.prog w0 12 [.slc 1 (aBytes c) t, .int .i64 id, .int .i64 clock, .int .i64 next] σ (fun r s => ∃ x, r = eSub x ∧ Grown id clock next x ∧ x = subF c id clock next ∧ s = σ) := by
  refine CallW.start Tryz.func12 rfl Tryz.ntmps12 (by simp) fun Q hQ => ?_
  have g0 := gL_lt c 0
  have g1 := gL_lt c 1
  have g2 := gL_lt c 2
  have g3 := gL_lt c 3
  have g4 := gL_lt c 4
  have hm0 : gL c 0 % 20 ≤ 19 := by omega
  have hlt0 := textL_len (gL c 0) 19
  refine W.seq ?_; refine W.regionL (by decide +kernel) rfl ?_; apply r_alloc; exact rfl; exact rfl; decide; exact rfl; (conv => (lhs; whnf)); intro b1 hb1; refine runs_done ?_; show W _ _ _ _ _ _ _
  obtain ⟨tp, htp, htl, htf⟩ : ∃ v : List UInt8, [AV.str [35], .str [97], .str [97, 47, 43], .str [98, 47, 35]][((gL c 1 : Int) % 4).toNat]? = some (.str v) ∧ TopicOk v ∧ v = topicF (gL c 1) := by
    have h : gL c 1 % 4 < 4 := Nat.mod_lt _ (by decide)
    rw [show ((gL c 1 : Int) % 4).toNat = gL c 1 % 4 by omega]
    unfold topicF
    generalize gL c 1 % 4 = q at h ⊢
    match q, h with
    | 0, _ => exact ⟨_, rfl, .inl rfl, rfl⟩
    | 1, _ => exact ⟨_, rfl, .inr (.inl rfl), rfl⟩
    | 2, _ => exact ⟨_, rfl, .inr (.inr (.inl rfl)), rfl⟩
    | 3, _ => exact ⟨_, rfl, .inr (.inr (.inr rfl)), rfl⟩
  obtain ⟨wn, hwn, hwl, hwf⟩ : ∃ v : List UInt8, [AV.str [], .str [97, 61, 49], .str [97, 61, 49, 44, 98, 61, 50]][((gL c 1 : Int) / 4 % 3).toNat]? = some (.str v) ∧ WantOk v ∧ v = wantF (gL c 1) := by
    have h : gL c 1 / 4 % 3 < 3 := Nat.mod_lt _ (by decide)
    rw [show ((gL c 1 : Int) / 4 % 3).toNat = gL c 1 / 4 % 3 by omega]
    unfold wantF
    generalize gL c 1 / 4 % 3 = q at h ⊢
    match q, h with
    | 0, _ => exact ⟨_, rfl, .inl rfl, rfl⟩
    | 1, _ => exact ⟨_, rfl, .inr (.inl rfl), rfl⟩
    | 2, _ => exact ⟨_, rfl, .inr (.inr rfl), rfl⟩
  refine W.seq ?_; refine W.regionDK 0 [] Ty.mixed (by decide +kernel) (by decide +kernel) rfl ?_; apply r_op; exact rfl; exact rfl; apply a_move; (conv => (lhs; whnf)); apply r_op; exact rfl; exact rfl; apply a_move; (conv => (lhs; whnf)); apply r_callP; exact rfl; exact rfl; exact rfl; exact rfl; exact rfl; infer_instance; exact g_any w0 c t 0; apply r_callP; exact rfl; exact rfl; exact rfl
  exact rfl; exact rfl; infer_instance; exact lawtext_any w0 (gL c 0) 19 (by omega) (by omega); apply r_op; exact rfl; exact rfl; apply g_binOp; exact a_addS rfl rfl (by simp only [length_aBytes, List.length_append, List.length_cons, List.length_nil, List.length_map, List.length_range]; omega); apply r_op; exact rfl; exact rfl; apply g_buildSlice; apply a_buildN
  apply EvP.cons (by (conv => (lhs; whnf))); apply EvP.cons (by (conv => (lhs; whnf))); apply EvP.cons (by (conv => (lhs; whnf))); apply EvP.cons (by (conv => (lhs; whnf))); exact EvP.nil; (conv => (lhs; whnf)); exact rfl; exact rfl; decide; apply r_op; exact rfl; exact rfl; apply a_move; (conv => (lhs; whnf)); apply r_callP; exact rfl; exact rfl; exact rfl; exact rfl; exact rfl; infer_instance
  exact g_any w0 c t 1; apply r_op; exact rfl; exact rfl; apply g_binOp; exact a_rem rfl rfl (by omega); apply r_op; exact rfl; exact rfl; apply g_indexAddr; exact a_indexAddr rfl rfl (by decide) (by omega) (by assumption); apply r_op; exact rfl; exact rfl; apply g_load; exact a_load1 rfl rfl; apply r_op; exact rfl; exact rfl; apply g_buildSlice; apply a_buildN
  apply EvP.cons (by (conv => (lhs; whnf))); apply EvP.cons (by (conv => (lhs; whnf))); apply EvP.cons (by (conv => (lhs; whnf))); exact EvP.nil; (conv => (lhs; whnf)); exact rfl; exact rfl; decide; apply r_op; exact rfl; exact rfl; apply a_move; (conv => (lhs; whnf)); apply r_callP; exact rfl; exact rfl; exact rfl; exact rfl; exact rfl; infer_instance; exact g_any w0 c t 1; apply r_op; exact rfl
  exact rfl; apply g_binOp; exact a_quo64 rfl rfl (by omega); apply r_op; exact rfl; exact rfl; apply g_binOp; exact a_rem rfl rfl (by omega); apply r_op; exact rfl; exact rfl; apply g_indexAddr; exact a_indexAddr rfl rfl (by decide) (by omega) (by assumption); apply r_op; exact rfl; exact rfl; apply g_load; exact a_load1 rfl rfl; apply r_op; exact rfl; exact rfl; apply a_move
  (conv => (lhs; whnf)); apply r_callP; exact rfl; exact rfl; exact rfl; exact rfl; exact rfl; infer_instance; exact g_any w0 c t 2; apply r_op; exact rfl; exact rfl; apply g_binOp; exact a_mul64 rfl rfl (by omega); apply r_op; exact rfl; exact rfl; apply g_binOp; exact a_add64 rfl rfl (by omega); apply r_op; exact rfl; exact rfl; apply a_move; (conv => (lhs; whnf)); apply r_callP; exact rfl
  exact rfl; exact rfl; exact rfl; exact rfl; infer_instance; exact g_any w0 c t 3; apply r_op; exact rfl; exact rfl; apply g_binOp; exact a_rem rfl rfl (by omega); apply r_op; exact rfl; exact rfl; apply g_binOp; exact a_add64 rfl rfl (by omega); apply r_op; exact rfl; exact rfl; apply a_move; (conv => (lhs; whnf)); apply r_callP; exact rfl; exact rfl; exact rfl; exact rfl; exact rfl
  infer_instance; exact g_any w0 c t 4; apply r_op; exact rfl; exact rfl; apply a_move; (conv => (lhs; whnf)); apply r_op; exact rfl; exact rfl; apply g_binOp; exact a_rem rfl rfl (by omega); apply r_op; exact rfl; exact rfl; apply g_build; apply a_build; apply EvP.cons (by (conv => (lhs; whnf))); apply EvP.cons (by (conv => (lhs; whnf))); apply EvP.cons (by (conv => (lhs; whnf)))
  apply EvP.cons (by (conv => (lhs; whnf))); apply EvP.cons (by (conv => (lhs; whnf))); apply EvP.cons (by (conv => (lhs; whnf))); apply EvP.cons (by (conv => (lhs; whnf))); exact EvP.nil
  simp only [aFill, List.getElem?_cons_zero, List.getElem?_cons_succ, AV.cells, List.length_cons, List.length_nil, AV.flat, AV.one, setL, List.set_cons_zero, List.set_cons_succ, Nat.reduceAdd, Nat.reduceLeDiff, Nat.reduceMul, and_self, if_true, ↓reduceIte, Nat.zero_add, Nat.le_refl, List.range, List.range.loop, List.map_cons, List.map_nil, Nat.zero_le]
  rfl; apply r_alloc; exact rfl; exact rfl; decide; exact rfl; (conv => (lhs; whnf)); intro b1 hb1; apply r_store; exact rfl; exact rfl; exact rfl; decide; infer_instance; exact rfl; exact setBox_same; (conv => (lhs; whnf)); exact rfl; (conv => (lhs; whnf)); exact rfl; exact of_decide_eq_true rfl; exact setL_whole rfl; refine runs_done ?_; show W _ _ _ _ _ _ _
  rename_i b8 hb8
  have hne : b8 ≠ b1 := ne_none' hb1
  have hbx : σ.box b1 = none := none_in hb1
  generalize b1 = bx at hne hbx hb1 ⊢
  generalize hx1 : (⟨id, [110] ++ textL (gL c 0) 19, tp, wn, 1 + (gL c 2 : Int) * 3, 1 + (gL c 3 : Int) % 9, (gL c 4 : Int) % (next : Int), [], [], []⟩ : Sub) = x1
  have hx1e : x1 = sub1 c id next := by rw [← hx1, htf, hwf]; rfl
  have hs1 : InSub σ (((σ.setBox b8 z10).setBox bx z10).setBox bx (subC x1 .full .full)) b8 bx x1 .full .full := by
    rw [setBox_setBox]
    exact ⟨hb_ne hne setBox_same, setBox_same, ((Moves.full σ).new hb8).new hbx, ((Moves.full σ).new hb8).new hbx, fun p e => by cases e⟩
  have hgr : Grown id clock next x1 := by
    subst hx1
    refine ⟨⟨gL c 0, g0, rfl⟩, htl, hwl, by simp, rfl, ?_, ?_, ?_, by simp, by simp, trivial, by simp, trivial, by simp, by simp, by simp⟩
    · show 1 ≤ 1 + (gL c 3 : Int) % 9 ∧ 1 + (gL c 3 : Int) % 9 ≤ 9; omega
    · show 1 ≤ 1 + (gL c 2 : Int) * 3 ∧ 1 + (gL c 2 : Int) * 3 ≤ 1000; omega
    · exact ⟨Int.emod_nonneg _ (by omega), Int.emod_lt_of_pos _ (by omega)⟩
  have hup : UpTo x1 x1.floor := by subst hx1; exact ⟨Int.le_refl _, by simp, by simp⟩
  refine W.weakBox (b := bx) (ds := subC x1 .full .full) setBox_same ?_ ?_
  · subst hx1
    exact .cons (.refl _) (.cons (.refl _) (.cons (.refl _) (.cons (.refl _) (.cons (.refl _) (.cons (.refl _) (.cons (.refl _) (.cons (.nils 1 .full (.inr rfl)) (.cons (.nils 8 .full (.inr rfl)) (.cons (.refl _) .nil)))))))))
  rw [setBox_setBox, setBox_setBox]
  rw [setBox_setBox] at hs1
  change W Tryz.prog w0 _ _ _ _ ((σ.setBox b8 z10).setBox bx (subC x1 .full .full))
  generalize (σ.setBox b8 z10).setBox bx (subC x1 .full .full) = s1 at hs1 ⊢
  have hlt5 := textL_len (gL c 5) 30
  have g5 := gL_lt c 5
  refine W.seq ?_; refine W.meet (fun E s => ∃ x, Grown id clock next x ∧ UpTo x x.floor ∧ InSub σ s b8 bx x .full .full ∧ x = sub2 c id next ∧ Has [(0, .slc 1 (aBytes c) t), (2, .int .i64 clock), (3, .int .i64 next), (8, .ptr b8 0), (9, .ptr bx 0)] E) ?_ ?_
  · have hb1 := hs1.b
    refine W.seq ?_; refine W.regionL (by decide +kernel) rfl ?_; apply r_op; exact rfl; exact rfl; apply a_move; (conv => (lhs; whnf)); apply r_callP; exact rfl; exact rfl; exact rfl; exact rfl; exact rfl; infer_instance; exact g_any w0 c t 5; apply r_op; exact rfl; exact rfl; apply g_binOp; exact a_binI rfl rfl rfl; (with_reducible refine runs_done ?_)
    refine W.cond rfl (fun hc => ?_) (fun hc => ?_)
    · refine W.regionL (by decide +kernel) rfl ?_
      apply r_op; exact rfl; exact rfl; apply a_move; (conv => (lhs; whnf)); apply r_callP; exact rfl; exact rfl; exact rfl; exact rfl; exact rfl; infer_instance; exact g_any w0 c t 5; apply r_callP; exact rfl; exact rfl; exact rfl; exact rfl; exact rfl; infer_instance; exact lawtext_any w0 (gL c 5) 30 (by omega) (by omega); apply r_op; exact rfl; exact rfl; apply g_fieldAddr
      exact a_fieldAddrP rfl (by decide); apply r_store; exact rfl; exact rfl; exact rfl; decide; infer_instance; exact rfl; assumption; (conv => (lhs; whnf)); exact rfl; (conv => (lhs; whnf)); exact rfl; exact of_decide_eq_true rfl; exact rfl; (with_reducible refine runs_done ?_)
      exact ⟨{ x1 with note := textL (gL c 5) 30 }, hgr.withNote hlt5, ⟨hup.floor, hup.acks, hup.queue⟩, hs1.set (x' := { x1 with note := textL (gL c 5) 30 }) hne hbx, by rw [sub2, if_pos (by have := of_decide_eq_true hc; omega), hx1e], by exact Has.by (by repeat (first | exact trivial | refine ⟨by first | trivial | exact Weak.refl _ | exact Weak.tok _ _ _ | exact Weak.of_eq (congrArg (AV.int _) (by omega)) | exact Weak.nils _ _ (.inr rfl), ?_⟩))⟩
    · refine W.skip ?_
      exact ⟨x1, hgr, hup, hs1, by rw [sub2, if_neg (by have := of_decide_eq_false hc; omega), hx1e], by exact Has.by (by repeat (first | exact trivial | refine ⟨by first | trivial | exact Weak.refl _ | exact Weak.tok _ _ _ | exact Weak.of_eq (congrArg (AV.int _) (by omega)) | exact Weak.nils _ _ (.inr rfl), ?_⟩))⟩
  · rintro E s ⟨x, hgr, hup, hs, hx2, hE⟩
    refine W.has hE ?_; clear hE hs1
    have hb := hs.b
    refine W.seq ?_; refine W.regionL (by decide +kernel) rfl ?_; apply r_op; exact rfl; exact rfl; apply g_fieldAddr; exact a_fieldAddrP rfl (by decide); apply r_load; exact rfl; exact rfl; exact rfl; decide; exact rfl; assumption; exact aLoad1 rfl; apply r_op; exact rfl; exact rfl; apply a_assign; (conv => (lhs; whnf)); refine runs_done ?_; show W _ _ _ _ _ _ _; refine W.seq ?_
    refine W.meet (fun E s => ∃ x ta tq, Grown id clock next x ∧ InSub σ s b8 bx x ta tq ∧ x = subF c id clock next ∧ Has [(8, .ptr b8 0), (9, .ptr bx 0)] E) ?_ ?_
    · refine W.seq ?_
      refine W.regionL (by decide +kernel) rfl ?_; apply r_op; exact rfl; exact rfl; apply a_assign; (conv => (lhs; whnf)); (with_reducible refine runs_done ?_); refine W.block ?_
      refine W.loop (fun k E s => ∃ (i : Nat) (seq : Int) (x : Sub) (ta tq : Tok), k = 100 - i ∧ 6 ≤ i ∧ i ≤ 69 ∧ 0 ≤ seq ∧ seq < next ∧ Grown id clock next x ∧ UpTo x seq ∧ InSub σ s b8 bx x ta tq ∧ (∃ n, i + 4 * n = 66 ∧ subL clock next n (c.drop i) seq x = subF c id clock next) ∧ Has [(0, .slc 1 (aBytes c) t), (2, .int .i64 clock), (3, .int .i64 next), (8, .ptr b8 0), (9, .ptr bx 0), (10, .int .i64 seq), (11, .int .i64 i)] E) 94 ⟨6, x.floor, x, .full, .full, rfl, by omega, by omega, hgr.floor.1, hgr.floor.2, hgr, hup, hs, ⟨15, by omega, by rw [hx2]; rfl⟩, by exact Has.by (by repeat (first | exact trivial | refine ⟨by first | trivial | exact Weak.refl _ | exact Weak.tok _ _ _ | exact Weak.of_eq (congrArg (AV.int _) (by omega)) | exact Weak.nils _ _ (.inr rfl), ?_⟩))⟩ ?_
      clear hup hs hb hgr hx2 x; rintro k E s ⟨i, seq, x, ta, tq, rfl, hi6, hi69, hs0, hsn, hgr, hup, hs, ⟨n, hn66, hR⟩, hE⟩; refine W.has hE ?_; clear hE
      have hb := hs.b
      have hla := length_aBytes c
      by_cases hlen : ¬ (i + 3 < c.length)
      · have d1 : decide ((i : Int) + 3 < ((aBytes c).length : Int)) = false := decide_eq_false (by rw [hla]; omega)
        refine W.seq ?_; refine W.seq ?_; refine W.regionL (by decide +kernel) rfl ?_; apply r_op; exact rfl; exact rfl; apply a_move; (conv => (lhs; whnf)); apply r_op; exact rfl; exact rfl; apply g_binOp; exact a_add64 rfl rfl (by omega); apply r_op; exact rfl; exact rfl; apply a_move; (conv => (lhs; whnf)); apply r_op; exact rfl; exact rfl; apply g_call; exact a_len_slc rfl; apply r_op
        exact rfl; exact rfl; apply g_binOp; exact a_binI rfl rfl rfl; apply r_op; exact rfl; exact rfl; apply a_move; (conv => (lhs; whnf)); apply q_skip; exact rfl; exact want_f rfl rfl rfl (by assumption); apply q_skip; exact rfl; exact want_f rfl rfl rfl (by assumption); apply r_op; exact rfl; exact rfl; apply g_pick; apply a_pickF rfl (by assumption); (conv => (lhs; whnf))
        (with_reducible refine runs_done ?_); refine W.condF rfl (by exact rfl) ?_; refine W.exit ?_
        exact ⟨x, ta, tq, hgr, hs, (subL_short _ _ _ _ _ _ (by rw [List.length_drop]; omega)).symm.trans hR, by exact Has.by (by repeat (first | exact trivial | refine ⟨by first | trivial | exact Weak.refl _ | exact Weak.tok _ _ _ | exact Weak.of_eq (congrArg (AV.int _) (by omega)) | exact Weak.nils _ _ (.inr rfl), ?_⟩))⟩
      have hlen := Decidable.of_not_not hlen
      have d1 : decide ((i : Int) + 3 < ((aBytes c).length : Int)) = true := decide_eq_true (by rw [hla]; omega)
      by_cases h66 : ¬ (i < 66)
      · have d2 : decide ((i : Int) < 66) = false := decide_eq_false (by omega)
        refine W.seq ?_; refine W.seq ?_; refine W.regionL (by decide +kernel) rfl ?_; apply r_op; exact rfl; exact rfl; apply a_move; (conv => (lhs; whnf)); apply r_op; exact rfl; exact rfl; apply g_binOp; exact a_add64 rfl rfl (by omega); apply r_op; exact rfl; exact rfl; apply a_move; (conv => (lhs; whnf)); apply r_op; exact rfl; exact rfl; apply g_call; exact a_len_slc rfl; apply r_op
        exact rfl; exact rfl; apply g_binOp; exact a_binI rfl rfl rfl; apply r_op; exact rfl; exact rfl; apply a_move; (conv => (lhs; whnf)); apply r_op; exact rfl; exact want_t rfl rfl rfl (by assumption); apply a_move; (conv => (lhs; whnf)); apply r_op; exact rfl; exact want_t rfl rfl rfl (by assumption); apply g_binOp; exact a_binI rfl rfl rfl; apply r_op; exact rfl; exact rfl; apply g_pick
        apply a_pickT rfl (by assumption); (conv => (lhs; whnf)); (with_reducible refine runs_done ?_); refine W.condF rfl (by assumption) ?_; refine W.exit ?_
        exact ⟨x, ta, tq, hgr, hs, (by have h0 : n = 0 := (by omega); subst h0; exact (subL_0 _ _ _ _ _).symm.trans hR), by exact Has.by (by repeat (first | exact trivial | refine ⟨by first | trivial | exact Weak.refl _ | exact Weak.tok _ _ _ | exact Weak.of_eq (congrArg (AV.int _) (by omega)) | exact Weak.nils _ _ (.inr rfl), ?_⟩))⟩
      have h66 := Decidable.of_not_not h66
      have d2 : decide ((i : Int) < 66) = true := decide_eq_true (by omega)
      obtain ⟨q0, gi0⟩ : ∃ q : UInt8, c[((i : Int)).toNat]? = some q := ⟨c[i]'(by omega), by simp⟩
      obtain ⟨q1, gi1⟩ : ∃ q : UInt8, c[((i : Int) + 1).toNat]? = some q := ⟨c[i + 1]'(by omega), by rw [show ((i : Int) + 1).toNat = i + 1 by omega]; simp⟩
      obtain ⟨q2, gi2⟩ : ∃ q : UInt8, c[((i : Int) + 2).toNat]? = some q := ⟨c[i + 2]'(by omega), by rw [show ((i : Int) + 2).toNat = i + 2 by omega]; simp⟩
      obtain ⟨q3, gi3⟩ : ∃ q : UInt8, c[((i : Int) + 3).toNat]? = some q := ⟨c[i + 3]'(by omega), by rw [show ((i : Int) + 3).toNat = i + 3 by omega]; simp⟩
      have l0 := q0.toNat_lt
      have l1 := q1.toNat_lt
      have l2 := q2.toNat_lt
      have l3 := q3.toNat_lt
      have w0' : IntKind.i64.wrap ((q0.toNat : Int) % 3) = (q0.toNat : Int) % 3 := IntWalk.i64_in _ (by omega)
      have w1 : IntKind.i64.wrap (q1.toNat : Int) = (q1.toNat : Int) := IntWalk.i64_in _ (by omega)
      have w2 : IntKind.i64.wrap (q2.toNat : Int) = (q2.toNat : Int) := IntWalk.i64_in _ (by omega)
      have w3 : IntKind.i64.wrap (q3.toNat : Int) = (q3.toNat : Int) := IntWalk.i64_in _ (by omega)
      have hmost := hgr.most
      have hlease := hgr.lease
      have hml := Int.emod_nonneg (IntKind.i64.wrap (q1.toNat : Int)) (show x.lease ≠ 0 by omega)
      have hml2 := Int.emod_lt_of_pos (IntKind.i64.wrap (q1.toNat : Int)) (show 0 < x.lease by omega)
      have hmm := Int.emod_nonneg (IntKind.i64.wrap (q3.toNat : Int)) (show x.most ≠ 0 by omega)
      have hmm2 := Int.emod_lt_of_pos (IntKind.i64.wrap (q3.toNat : Int)) (show 0 < x.most by omega)
      have ht60 : CallP Tryz.prog w0 28 [.int .i64 (IntKind.i64.wrap (q1.toNat : Int)), .int .i64 60] (.str (textL q1.toNat 60)) := by
        rw [w1]; exact lawtext_any w0 q1.toNat 60 (by omega) (by omega)
      have hl60 := textL_len q1.toNat 60
      obtain ⟨at_, hat, hatl, hatf⟩ : ∃ v : List UInt8, [AV.str [], .str [97, 61, 49], .str [98, 61, 50]][((q2.toNat : Int) % 3).toNat]? = some (.str v) ∧ (v = [] ∨ v = [97, 61, 49] ∨ v = [98, 61, 50]) ∧ v = attrF q2.toNat := by
        have h : q2.toNat % 3 < 3 := Nat.mod_lt _ (by decide)
        rw [show ((q2.toNat : Int) % 3).toNat = q2.toNat % 3 by omega]
        unfold attrF
        generalize q2.toNat % 3 = q at h ⊢
        match q, h with
        | 0, _ => exact ⟨_, rfl, .inl rfl, rfl⟩
        | 1, _ => exact ⟨_, rfl, .inr (.inl rfl), rfl⟩
        | 2, _ => exact ⟨_, rfl, .inr (.inr rfl), rfl⟩
      obtain ⟨wy, hwy, hwyl, hwyf⟩ : ∃ v : List UInt8, [AV.str [110, 97, 99, 107], .str [116, 105, 109, 101]][((q1.toNat : Int) % 2).toNat]? = some (.str v) ∧ (v = [110, 97, 99, 107] ∨ v = [116, 105, 109, 101]) ∧ v = whyF q1.toNat := by
        have h : q1.toNat % 2 < 2 := Nat.mod_lt _ (by decide)
        rw [show ((q1.toNat : Int) % 2).toNat = q1.toNat % 2 by omega]
        unfold whyF
        generalize q1.toNat % 2 = q at h ⊢
        match q, h with
        | 0, _ => exact ⟨_, rfl, .inl rfl, rfl⟩
        | 1, _ => exact ⟨_, rfl, .inr rfl, rfl⟩
      obtain ⟨n, rfl⟩ : ∃ m, n = m + 1 := ⟨n - 1, by omega⟩
      rw [drop4 (q0 := q0) (q1 := q1) (q2 := q2) (q3 := q3) (by simpa using gi0) (by rw [← show ((i : Int) + 1).toNat = i + 1 by omega]; exact gi1) (by rw [← show ((i : Int) + 2).toNat = i + 2 by omega]; exact gi2) (by rw [← show ((i : Int) + 3).toNat = i + 3 by omega]; exact gi3), subL] at hR
      have hnq := hgr.nqueue
      have hna := hgr.nacks
      refine W.seq ?_; refine W.seq ?_; refine W.regionL (by decide +kernel) rfl ?_; apply r_op; exact rfl; exact rfl; apply a_move; (conv => (lhs; whnf)); apply r_op; exact rfl; exact rfl; apply g_binOp; exact a_add64 rfl rfl (by omega); apply r_op; exact rfl; exact rfl; apply a_move; (conv => (lhs; whnf)); apply r_op; exact rfl; exact rfl; apply g_call; exact a_len_slc rfl; apply r_op; exact rfl
      exact rfl; apply g_binOp; exact a_binI rfl rfl rfl; apply r_op; exact rfl; exact rfl; apply a_move; (conv => (lhs; whnf)); apply r_op; exact rfl; exact want_t rfl rfl rfl (by assumption); apply a_move; (conv => (lhs; whnf)); apply r_op; exact rfl; exact want_t rfl rfl rfl (by assumption); apply g_binOp; exact a_binI rfl rfl rfl; apply r_op; exact rfl; exact rfl; apply g_pick
      apply a_pickT rfl (by assumption); (conv => (lhs; whnf)); (with_reducible refine runs_done ?_); refine W.condT rfl (by assumption) ?_; refine W.skip ?_; show W _ _ _ _ _ _ _; refine W.seq ?_; refine W.block ?_; refine W.seq ?_; refine W.regionL (by decide +kernel) rfl ?_; apply r_op; exact rfl; exact rfl; apply a_move; (conv => (lhs; whnf)); apply r_op; exact rfl; exact rfl; apply a_move
      (conv => (lhs; whnf)); apply r_op; exact rfl; exact rfl; apply a_move; (conv => (lhs; whnf)); apply r_op; exact rfl; exact rfl; apply g_indexAddr; exact a_indexAddr rfl rfl (by decide) (by omega) (by exact get_bytes (by assumption)); apply r_op; exact rfl; exact rfl; apply g_load; exact a_load1 rfl rfl; apply r_op; exact rfl; exact rfl; apply g_binOp; exact a_rem rfl rfl (by omega)
      apply r_op; exact rfl; exact rfl; apply g_convert; exact a_convI rfl; apply r_op; exact rfl; exact rfl; apply g_binOp; exact a_add64 rfl rfl (by omega); apply r_op; exact rfl; exact rfl; apply g_binOp; exact a_add64 rfl rfl (by omega); apply r_op; exact rfl; exact rfl; apply a_assign; (conv => (lhs; whnf)); (with_reducible refine runs_done ?_); refine W.seq ?_; refine W.seq ?_
      refine W.regionL (by decide +kernel) rfl ?_; apply r_op; exact rfl; exact rfl; apply a_move; (conv => (lhs; whnf)); apply r_op; exact rfl; exact rfl; apply a_move; (conv => (lhs; whnf)); apply r_op; exact rfl; exact rfl; apply g_binOp; exact a_binI rfl rfl rfl; (with_reducible refine runs_done ?_); refine W.cond rfl (fun hc => ?_) (fun hc => ?_)
      · refine W.exit ?_
        exact ⟨x, ta, tq, hgr, hs, by rw [if_pos (by have := of_decide_eq_true hc; unfold seqF; omega)] at hR; exact hR, by exact Has.by (by repeat (first | exact trivial | refine ⟨by first | trivial | exact Weak.refl _ | exact Weak.tok _ _ _ | exact Weak.of_eq (congrArg (AV.int _) (by omega)) | exact Weak.nils _ _ (.inr rfl), ?_⟩))⟩
      rw [if_neg (by have := of_decide_eq_false hc; unfold seqF; omega), show seqF q0 seq = seq + (1 + IntKind.i64.wrap ((q0.toNat : Int) % 3)) from rfl] at hR
      have hsq : seq + (1 + IntKind.i64.wrap ((q0.toNat : Int) % 3)) < next := by have := of_decide_eq_false hc; omega
      have hsq0 : 0 ≤ seq + (1 + IntKind.i64.wrap ((q0.toNat : Int) % 3)) := by omega
      have hsq1 : seq < seq + (1 + IntKind.i64.wrap ((q0.toNat : Int) % 3)) := by omega
      generalize seq + (1 + IntKind.i64.wrap ((q0.toNat : Int) % 3)) = seq1 at hsq hsq0 hsq1 hR ⊢
      clear hc; refine W.skip ?_; show W _ _ _ _ _ _ _; refine W.seq ?_; refine W.meet (fun E s' => s' = s ∧ ¬ (200 < q0.toNat ∧ x.acks.length < 20) ∧ Has [(0, .slc 1 (aBytes c) t), (2, .int .i64 clock), (3, .int .i64 next), (8, .ptr b8 0), (9, .ptr bx 0), (10, .int .i64 seq1), (11, .int .i64 i)] E) ?_ ?_
      · have hm0 := Moves.refl hs.ma.room
        refine W.seq ?_; refine W.regionL (by decide +kernel) rfl ?_; apply r_op; exact rfl; exact rfl; apply a_move; (conv => (lhs; whnf)); apply r_op; exact rfl; exact rfl; apply a_move; (conv => (lhs; whnf)); apply r_op; exact rfl; exact rfl; apply g_indexAddr; exact a_indexAddr rfl rfl (by decide) (by omega) (by exact get_bytes (by assumption)); apply r_op; exact rfl; exact rfl; apply g_load
        exact a_load1 rfl rfl; apply r_op; exact rfl; exact rfl; apply g_binOp; exact a_binI rfl rfl rfl; apply r_op; exact rfl; exact rfl; apply a_move; (conv => (lhs; whnf)); refine q_split rfl rfl rfl (fun hg => ?_) (fun hg => ?_); apply r_op; exact rfl; exact want_t rfl rfl rfl (by assumption); apply g_fieldAddr; exact a_fieldAddrP rfl (by decide); apply r_load; exact rfl; exact rfl; exact rfl
        decide; exact want_t rfl rfl rfl (by assumption); assumption; exact aLoad1 rfl; apply r_op; exact rfl; exact want_t rfl rfl rfl (by assumption); apply g_call; exact a_len_slc rfl; apply r_op; exact rfl; exact want_t rfl rfl rfl (by assumption); apply g_binOp; exact a_binI rfl rfl rfl; apply r_op; exact rfl; exact rfl; apply g_pick; apply a_pickT rfl (by assumption); (conv => (lhs; whnf))
        (with_reducible refine runs_done ?_); refine W.cond rfl (fun hc => ?_) (fun hc => ?_); refine W.seq ?_; refine W.regionL (by decide +kernel) rfl ?_; apply r_op; exact rfl; exact rfl; apply g_fieldAddr; exact a_fieldAddrP rfl (by decide); apply r_load; exact rfl; exact rfl; exact rfl; decide; exact rfl; assumption; exact aLoad1 rfl; apply r_op; exact rfl; exact rfl; apply a_move
        (conv => (lhs; whnf)); apply r_op; exact rfl; exact rfl; apply g_buildSlice; apply a_build1; (conv => (lhs; whnf)); exact rfl; exact rfl; decide; apply r_append'; exact rfl; exact rfl; decide; infer_instance; exact rfl; exact rfl; exact rfl; exact rfl; exact rfl; assumption
        simp only [length_aBytes, List.length_append, List.length_cons, List.length_nil, List.length_map, List.length_range]
        omega; intro tk1 σ1 hm; apply r_op; exact rfl; exact rfl; apply g_fieldAddr; exact a_fieldAddrP rfl (by decide); apply r_store; exact rfl; exact rfl; exact rfl; decide; infer_instance; exact rfl; apply hb_moves (by assumption); assumption; (conv => (lhs; whnf)); exact rfl; (conv => (lhs; whnf)); exact rfl; exact of_decide_eq_true rfl; exact rfl; (with_reducible refine runs_done ?_)
        refine W.exit ?_; show W _ _ _ _ _ _ _; refine W.regionL (by decide +kernel) rfl ?_; apply r_op; exact rfl; exact rfl; apply a_move; (conv => (lhs; whnf)); apply r_op; exact rfl; exact rfl; apply g_binOp; exact a_add64 rfl rfl (by omega); apply r_op; exact rfl; exact rfl; apply a_assign; (conv => (lhs; whnf)); (with_reducible refine runs_done ?_); rotate_left; refine W.skip ?_; rotate_left
        apply q_skip; exact rfl; exact want_f rfl rfl rfl (by assumption); apply q_skip; exact rfl; exact want_f rfl rfl rfl (by assumption); apply q_skip; exact rfl; exact want_f rfl rfl rfl (by assumption); apply q_skip; exact rfl; exact want_f rfl rfl rfl (by assumption); apply r_op; exact rfl; exact rfl; apply g_pick; apply a_pickF rfl (by assumption); (conv => (lhs; whnf))
        (with_reducible refine runs_done ?_); refine W.condF rfl (by exact rfl) ?_; refine W.skip ?_; rotate_left
        · have hq20 : x.acks.length < 20 := by have := of_decide_eq_true hc; simp at this; omega
          have h9 := hs.acks (x' := { x with acks := x.acks ++ [seq1] }) hne hbx hm
          simp only [subC, List.map_append, List.map_cons, List.map_nil] at h9
          obtain ⟨k1, k2⟩ := hgr.ack hup hsq1 hsq hq20
          exact ⟨100 - (i + 4), by omega, i + 4, seq1, { x with acks := x.acks ++ [seq1] }, tk1, tq, rfl, by omega, by omega, hsq0, hsq, k1, k2, h9, ⟨n, by omega, by rw [if_pos ⟨by have := of_decide_eq_true hg; omega, hq20⟩] at hR; exact hR⟩, by exact Has.by (by repeat (first | exact trivial | refine ⟨by first | trivial | exact Weak.refl _ | exact Weak.tok _ _ _ | exact Weak.of_eq (congrArg (AV.int _) (by omega)) | exact Weak.nils _ _ (.inr rfl), ?_⟩))⟩
        · exact ⟨rfl, by simp only [decide_eq_true_eq, decide_eq_false_iff_not, List.length_map] at *; omega, by exact Has.by (by repeat (first | exact trivial | refine ⟨by first | trivial | exact Weak.refl _ | exact Weak.tok _ _ _ | exact Weak.of_eq (congrArg (AV.int _) (by omega)) | exact Weak.nils _ _ (.inr rfl), ?_⟩))⟩
        · exact ⟨rfl, by simp only [decide_eq_true_eq, decide_eq_false_iff_not, List.length_map] at *; omega, by exact Has.by (by repeat (first | exact trivial | refine ⟨by first | trivial | exact Weak.refl _ | exact Weak.tok _ _ _ | exact Weak.of_eq (congrArg (AV.int _) (by omega)) | exact Weak.nils _ _ (.inr rfl), ?_⟩))⟩
      · rintro E s' ⟨rfl, hna2, hE⟩
        rw [if_neg hna2] at hR
        refine W.has hE ?_; clear hE; refine W.seq ?_; refine W.seq ?_; refine W.regionL (by decide +kernel) rfl ?_; apply r_op; exact rfl; exact rfl; apply g_fieldAddr; exact a_fieldAddrP rfl (by decide); apply r_load; exact rfl; exact rfl; exact rfl; decide; exact rfl; assumption; exact aLoad1 rfl; apply r_op; exact rfl; exact rfl; apply g_call; exact a_len_slc rfl; apply r_op; exact rfl
        exact rfl; apply g_binOp; exact a_binI rfl rfl rfl; (with_reducible refine runs_done ?_); refine W.cond rfl (fun hc => ?_) (fun hc => ?_)
        · refine W.exit ?_
          exact ⟨x, ta, tq, hgr, hs, by rw [if_pos (by have := of_decide_eq_true hc; simp at this; omega)] at hR; exact hR, by exact Has.by (by repeat (first | exact trivial | refine ⟨by first | trivial | exact Weak.refl _ | exact Weak.tok _ _ _ | exact Weak.of_eq (congrArg (AV.int _) (by omega)) | exact Weak.nils _ _ (.inr rfl), ?_⟩))⟩
        rw [if_neg (by have := of_decide_eq_false hc; simp at this; omega)] at hR
        have hq30 : x.queue.length < 30 := by have := of_decide_eq_false hc; simp at this; omega
        clear hc; refine W.skip ?_; show W _ _ _ _ _ _ _; refine W.seq ?_; refine W.regionDK 0 [] Ty.mixed (by decide +kernel) (by decide +kernel) rfl ?_; apply r_op; exact rfl; exact rfl; apply a_move; (conv => (lhs; whnf)); apply r_op; exact rfl; exact rfl; apply a_move; (conv => (lhs; whnf)); apply r_op; exact rfl; exact rfl; apply a_move; (conv => (lhs; whnf)); apply r_op; exact rfl; exact rfl
        apply g_binOp; exact a_add64 rfl rfl (by omega); apply r_op; exact rfl; exact rfl; apply g_indexAddr; exact a_indexAddr rfl rfl (by decide) (by omega) (by exact get_bytes (by assumption)); apply r_op; exact rfl; exact rfl; apply g_load; exact a_load1 rfl rfl; apply r_op; exact rfl; exact rfl; apply g_convert; exact a_convI rfl; apply r_callP; exact rfl; exact rfl; exact rfl; exact rfl
        exact rfl; infer_instance; exact ht60; apply r_op; exact rfl; exact rfl; apply g_buildSlice; apply a_buildN; apply EvP.cons (by (conv => (lhs; whnf))); apply EvP.cons (by (conv => (lhs; whnf))); apply EvP.cons (by (conv => (lhs; whnf))); exact EvP.nil; (conv => (lhs; whnf)); exact rfl; exact rfl; decide; apply r_op; exact rfl; exact rfl; apply a_move; (conv => (lhs; whnf)); apply r_op
        exact rfl; exact rfl; apply a_move; (conv => (lhs; whnf)); apply r_op; exact rfl; exact rfl; apply g_binOp; exact a_add64 rfl rfl (by omega); apply r_op; exact rfl; exact rfl; apply g_indexAddr; exact a_indexAddr rfl rfl (by decide) (by omega) (by exact get_bytes (by assumption)); apply r_op; exact rfl; exact rfl; apply g_load; exact a_load1 rfl rfl; apply r_op; exact rfl; exact rfl
        apply g_binOp; exact a_rem rfl rfl (by omega); apply r_op; exact rfl; exact rfl; apply g_indexAddr; exact a_indexAddr rfl rfl (by decide) (by omega) (by assumption); apply r_op; exact rfl; exact rfl; apply g_load; exact a_load1 rfl rfl; apply r_op; exact rfl; exact rfl; apply g_build; apply a_build; apply EvP.cons (by (conv => (lhs; whnf))); apply EvP.cons (by (conv => (lhs; whnf)))
        apply EvP.cons (by (conv => (lhs; whnf))); exact EvP.nil
        simp only [aFill, List.getElem?_cons_zero, List.getElem?_cons_succ, AV.cells, List.length_cons, List.length_nil, AV.flat, AV.one, setL, List.set_cons_zero, List.set_cons_succ, Nat.reduceAdd, Nat.reduceLeDiff, Nat.reduceMul, and_self, if_true, ↓reduceIte, Nat.zero_add, Nat.le_refl, List.range, List.range.loop, List.map_cons, List.map_nil, Nat.zero_le]
        rfl; apply r_alloc; exact rfl; exact rfl; decide; exact rfl; (conv => (lhs; whnf)); intro b1 hb1; apply r_store; exact rfl; exact rfl; exact rfl; decide; infer_instance; exact rfl; exact setBox_same; (conv => (lhs; whnf)); exact rfl; (conv => (lhs; whnf)); exact rfl; exact of_decide_eq_true rfl; exact setL_whole rfl; refine runs_done ?_; show W _ _ _ _ _ _ _
        generalize b1 = b12 at hb1 ⊢
        have hb12 : s'.box b12 = none := hb1
        clear hb1
        have hσ12 := none_moves hs.ma hb12
        have h812 : b8 ≠ b12 := (ne_some hs.r hb12).symm
        have hx12 : bx ≠ b12 := (ne_some hs.b hb12).symm
        have h12x : b12 ≠ bx := hx12.symm
        refine W.seq ?_
        refine W.meet (fun E s => ∃ m : Msg, (m.seq = seq1 ∧ m.body.length ≤ 60 ∧ (m.attr = [] ∨ m.attr = [97, 61, 49] ∨ m.attr = [98, 61, 50]) ∧ (0 ≤ m.prio ∧ m.prio ≤ 9) ∧ m.tries = 0 ∧ m.until_ = 0 ∧ m.dead = false ∧ m.why = []) ∧ m = msgW q1 q2 seq1 ∧ s = s'.setBox b12 (msgC m) ∧ Has [(0, .slc 1 (aBytes c) t), (2, .int .i64 clock), (3, .int .i64 next), (8, .ptr b8 0), (9, .ptr bx 0), (10, .int .i64 seq1), (11, .int .i64 i), (12, .ptr b12 0)] E) ?_ ?_
        · refine W.seq ?_
          refine W.regionL (by decide +kernel) rfl ?_; apply r_op; exact rfl; exact rfl; apply a_move; (conv => (lhs; whnf)); apply r_op; exact rfl; exact rfl; apply a_move; (conv => (lhs; whnf)); apply r_op; exact rfl; exact rfl; apply g_binOp; exact a_add64 rfl rfl (by omega); apply r_op; exact rfl; exact rfl; apply g_indexAddr
          exact a_indexAddr rfl rfl (by decide) (by omega) (by exact get_bytes (by assumption)); apply r_op; exact rfl; exact rfl; apply g_load; exact a_load1 rfl rfl; apply r_op; exact rfl; exact rfl; apply g_binOp; exact a_binI rfl rfl rfl; (with_reducible refine runs_done ?_); refine W.cond rfl (fun hc => ?_) (fun hc => ?_); refine W.regionL (by decide +kernel) rfl ?_; apply r_op; exact rfl
          exact rfl; apply a_move; (conv => (lhs; whnf)); apply r_op; exact rfl; exact rfl; apply a_move; (conv => (lhs; whnf)); apply r_op; exact rfl; exact rfl; apply g_binOp; exact a_add64 rfl rfl (by omega); apply r_op; exact rfl; exact rfl; apply g_indexAddr; exact a_indexAddr rfl rfl (by decide) (by omega) (by exact get_bytes (by assumption)); apply r_op; exact rfl; exact rfl; apply g_load
          exact a_load1 rfl rfl; apply r_op; exact rfl; exact rfl; apply g_convert; exact a_convI rfl; apply r_op; exact rfl; exact rfl; apply g_binOp; exact a_rem rfl rfl (by omega); apply r_op; exact rfl; exact rfl; apply g_fieldAddr; exact a_fieldAddrP rfl (by decide); apply r_store; exact rfl; exact rfl; exact rfl; decide; infer_instance; exact rfl; exact setBox_same; (conv => (lhs; whnf))
          exact rfl; (conv => (lhs; whnf)); exact rfl; exact of_decide_eq_true rfl; exact rfl; (with_reducible refine runs_done ?_); rotate_left; refine W.skip ?_; rotate_left
          · exact ⟨⟨seq1, textL q1.toNat 60, at_, 0, 0, false, [], IntKind.i64.wrap (q2.toNat : Int) % 10⟩, ⟨rfl, hl60, hatl, by constructor <;> (show _ ≤ _; dsimp only; omega), rfl, rfl, rfl, rfl⟩, by rw [msgW, prioF, if_pos (by have := of_decide_eq_true hc; omega), hatf], by simp only [setBox_setBox]; rfl, by exact Has.by (by repeat (first | exact trivial | refine ⟨by first | trivial | exact Weak.refl _ | exact Weak.tok _ _ _ | exact Weak.of_eq (congrArg (AV.int _) (by omega)) | exact Weak.nils _ _ (.inr rfl), ?_⟩))⟩
          · exact ⟨⟨seq1, textL q1.toNat 60, at_, 0, 0, false, [], 0⟩, ⟨rfl, hl60, hatl, (show (0 : Int) ≤ 0 ∧ (0 : Int) ≤ 9 from ⟨by decide, by decide⟩), rfl, rfl, rfl, rfl⟩, by rw [msgW, prioF, if_neg (by have := of_decide_eq_false hc; omega), hatf], by simp only [setBox_setBox]; rfl, by exact Has.by (by repeat (first | exact trivial | refine ⟨by first | trivial | exact Weak.refl _ | exact Weak.tok _ _ _ | exact Weak.of_eq (congrArg (AV.int _) (by omega)) | exact Weak.nils _ _ (.inr rfl), ?_⟩))⟩
        · rintro E s2 ⟨m, ⟨ms, mb, ma, mp, mt, mu, md, mw⟩, hm0e, rfl, hE⟩
          refine W.has hE ?_; clear hE; refine W.seq ?_; refine W.meet (fun E s => ∃ m : Msg, (m.seq = seq1 ∧ MsgOk clock x.most x.lease m) ∧ m = msgF clock q1 q2 q3 seq1 x ∧ s = s'.setBox b12 (msgC m) ∧ Has [(0, .slc 1 (aBytes c) t), (2, .int .i64 clock), (3, .int .i64 next), (8, .ptr b8 0), (9, .ptr bx 0), (10, .int .i64 seq1), (11, .int .i64 i), (12, .ptr b12 0)] E) ?_ ?_
          · refine W.seq ?_
            refine W.regionL (by decide +kernel) rfl ?_; apply r_op; exact rfl; exact rfl; apply a_move; (conv => (lhs; whnf)); apply r_op; exact rfl; exact rfl; apply a_move; (conv => (lhs; whnf)); apply r_op; exact rfl; exact rfl; apply g_binOp; exact a_add64 rfl rfl (by omega); apply r_op; exact rfl; exact rfl; apply g_indexAddr
            exact a_indexAddr rfl rfl (by decide) (by omega) (by exact get_bytes (by assumption)); apply r_op; exact rfl; exact rfl; apply g_load; exact a_load1 rfl rfl; apply r_op; exact rfl; exact rfl; apply g_binOp; exact a_rem rfl rfl (by omega); (with_reducible refine runs_done ?_); refine W.block ?_; refine W.seq ?_; refine W.regionL (by decide +kernel) rfl ?_; apply r_op; exact rfl; exact rfl
            apply g_binOp; exact a_binI rfl rfl rfl; apply r_op; exact rfl; exact rfl; apply a_assign; (conv => (lhs; whnf)); (with_reducible refine runs_done ?_); refine W.cond rfl (fun hc => ?_) (fun hc => ?_); refine W.regionDK 1 [] Ty.mixed (by decide +kernel) (by decide +kernel) rfl ?_; apply r_op; exact rfl; exact rfl; apply a_move; (conv => (lhs; whnf)); apply r_op; exact rfl; exact rfl
            apply a_move; (conv => (lhs; whnf)); apply r_op; exact rfl; exact rfl; apply g_binOp; exact a_add64 rfl rfl (by omega); apply r_op; exact rfl; exact rfl; apply g_indexAddr; exact a_indexAddr rfl rfl (by decide) (by omega) (by exact get_bytes (by assumption)); apply r_op; exact rfl; exact rfl; apply g_load; exact a_load1 rfl rfl; apply r_op; exact rfl; exact rfl; apply g_convert
            exact a_convI rfl; apply r_op; exact rfl; exact rfl; apply g_fieldAddr; exact a_fieldAddrP rfl (by decide); apply r_load; exact rfl; exact rfl; exact rfl; decide; exact rfl; apply hb_ne (by assumption); assumption; exact aLoad1 rfl; apply r_op; exact rfl; exact rfl; apply g_binOp; exact a_rem rfl rfl (by omega); apply r_op; exact rfl; exact rfl; apply g_fieldAddr
            exact a_fieldAddrP rfl (by decide); apply r_store; exact rfl; exact rfl; exact rfl; decide; infer_instance; exact rfl; exact setBox_same; (conv => (lhs; whnf)); exact rfl; (conv => (lhs; whnf)); exact rfl; exact of_decide_eq_true rfl; exact rfl; (with_reducible refine runs_done ?_); rotate_left; refine W.seq ?_; refine W.regionL (by decide +kernel) rfl ?_; apply r_op; exact rfl; exact rfl
            apply g_binOp; exact a_binI rfl rfl rfl; apply r_op; exact rfl; exact rfl; apply a_assign; (conv => (lhs; whnf)); (with_reducible refine runs_done ?_); refine W.cond rfl (fun hc => ?_) (fun hc => ?_); refine W.seq ?_; refine W.regionDK 1 [] Ty.mixed (by decide +kernel) (by decide +kernel) rfl ?_; apply r_op; exact rfl; exact rfl; apply a_move; (conv => (lhs; whnf)); apply r_op; exact rfl
            exact rfl; apply a_move; (conv => (lhs; whnf)); apply r_op; exact rfl; exact rfl; apply g_binOp; exact a_add64 rfl rfl (by omega); apply r_op; exact rfl; exact rfl; apply g_indexAddr; exact a_indexAddr rfl rfl (by decide) (by omega) (by exact get_bytes (by assumption)); apply r_op; exact rfl; exact rfl; apply g_load; exact a_load1 rfl rfl; apply r_op; exact rfl; exact rfl
            apply g_convert; exact a_convI rfl; apply r_op; exact rfl; exact rfl; apply g_fieldAddr; exact a_fieldAddrP rfl (by decide); apply r_load; exact rfl; exact rfl; exact rfl; decide; exact rfl; apply hb_ne (by assumption); assumption; exact aLoad1 rfl; apply r_op; exact rfl; exact rfl; apply g_binOp; exact a_rem rfl rfl (by omega); apply r_op; exact rfl; exact rfl; apply g_binOp
            exact a_add64 rfl rfl (by omega); apply r_op; exact rfl; exact rfl; apply g_fieldAddr; exact a_fieldAddrP rfl (by decide); apply r_store; exact rfl; exact rfl; exact rfl; decide; infer_instance; exact rfl; exact setBox_same; (conv => (lhs; whnf)); exact rfl; (conv => (lhs; whnf)); exact rfl; exact of_decide_eq_true rfl; exact rfl; (with_reducible refine runs_done ?_)
            refine W.regionDK 1 [] Ty.mixed (by decide +kernel) (by decide +kernel) rfl ?_; apply r_op; exact rfl; exact rfl; apply a_move; (conv => (lhs; whnf)); apply r_op; exact rfl; exact rfl; apply g_binOp; exact a_add64 rfl rfl (by omega); apply r_op; exact rfl; exact rfl; apply a_move; (conv => (lhs; whnf)); apply r_op; exact rfl; exact rfl; apply a_move; (conv => (lhs; whnf)); apply r_op
            exact rfl; exact rfl; apply g_binOp; exact a_add64 rfl rfl (by omega); apply r_op; exact rfl; exact rfl; apply g_indexAddr; exact a_indexAddr rfl rfl (by decide) (by omega) (by exact get_bytes (by assumption)); apply r_op; exact rfl; exact rfl; apply g_load; exact a_load1 rfl rfl; apply r_op; exact rfl; exact rfl; apply g_convert; exact a_convI rfl; apply r_op; exact rfl; exact rfl
            apply g_fieldAddr; exact a_fieldAddrP rfl (by decide); apply r_load; exact rfl; exact rfl; exact rfl; decide; exact rfl; apply hb_ne (by assumption); apply hb_ne (by assumption); assumption; exact aLoad1 rfl; apply r_op; exact rfl; exact rfl; apply g_binOp; exact a_rem rfl rfl (by omega); apply r_op; exact rfl; exact rfl; apply g_binOp; exact a_add64 rfl rfl (by omega); apply r_op
            exact rfl; exact rfl; apply g_fieldAddr; exact a_fieldAddrP rfl (by decide); apply r_store; exact rfl; exact rfl; exact rfl; decide; infer_instance; exact rfl; exact setBox_same; (conv => (lhs; whnf)); exact rfl; (conv => (lhs; whnf)); exact rfl; exact of_decide_eq_true rfl; exact rfl; (with_reducible refine runs_done ?_); rotate_left; refine W.seq ?_
            refine W.regionL (by decide +kernel) rfl ?_; apply r_op; exact rfl; exact rfl; apply g_binOp; exact a_binI rfl rfl rfl; apply r_op; exact rfl; exact rfl; apply a_assign; (conv => (lhs; whnf)); (with_reducible refine runs_done ?_); refine W.cond rfl (fun hc => ?_) (fun hc => ?_); refine W.seq ?_; refine W.regionL (by decide +kernel) rfl ?_; apply r_op; exact rfl; exact rfl
            apply g_fieldAddr; exact a_fieldAddrP rfl (by decide); apply r_store; exact rfl; exact rfl; exact rfl; decide; infer_instance; exact rfl; exact setBox_same; (conv => (lhs; whnf)); exact rfl; (conv => (lhs; whnf)); exact rfl; exact of_decide_eq_true rfl; exact rfl; (with_reducible refine runs_done ?_); refine W.seq ?_; refine W.regionL (by decide +kernel) rfl ?_; apply r_op; exact rfl
            exact rfl; apply g_fieldAddr; exact a_fieldAddrP rfl (by decide); apply r_load; exact rfl; exact rfl; exact rfl; decide; exact rfl; apply hb_ne (by assumption); apply hb_ne (by assumption); assumption; exact aLoad1 rfl; apply r_op; exact rfl; exact rfl; apply g_fieldAddr; exact a_fieldAddrP rfl (by decide); apply r_store; exact rfl; exact rfl; exact rfl; decide; infer_instance
            exact rfl; exact setBox_same; (conv => (lhs; whnf)); exact rfl; (conv => (lhs; whnf)); exact rfl; exact of_decide_eq_true rfl; exact rfl; (with_reducible refine runs_done ?_); refine W.regionL (by decide +kernel) rfl ?_; apply r_op; exact rfl; exact rfl; apply g_buildSlice; apply a_buildN; apply EvP.cons (by (conv => (lhs; whnf))); apply EvP.cons (by (conv => (lhs; whnf))); exact EvP.nil
            (conv => (lhs; whnf)); exact rfl; exact rfl; decide; apply r_op; exact rfl; exact rfl; apply a_move; (conv => (lhs; whnf)); apply r_op; exact rfl; exact rfl; apply a_move; (conv => (lhs; whnf)); apply r_op; exact rfl; exact rfl; apply g_binOp; exact a_add64 rfl rfl (by omega); apply r_op; exact rfl; exact rfl; apply g_indexAddr
            exact a_indexAddr rfl rfl (by decide) (by omega) (by exact get_bytes (by assumption)); apply r_op; exact rfl; exact rfl; apply g_load; exact a_load1 rfl rfl; apply r_op; exact rfl; exact rfl; apply g_binOp; exact a_rem rfl rfl (by omega); apply r_op; exact rfl; exact rfl; apply g_indexAddr; exact a_indexAddr rfl rfl (by decide) (by omega) (by assumption); apply r_op; exact rfl
            exact rfl; apply g_load; exact a_load1 rfl rfl; apply r_op; exact rfl; exact rfl; apply g_fieldAddr; exact a_fieldAddrP rfl (by decide); apply r_store; exact rfl; exact rfl; exact rfl; decide; infer_instance; exact rfl; exact setBox_same; (conv => (lhs; whnf)); exact rfl; (conv => (lhs; whnf)); exact rfl; exact of_decide_eq_true rfl; exact rfl; (with_reducible refine runs_done ?_)
            rotate_left; refine W.skip ?_; rotate_left
            · exact ⟨{ m with tries := IntKind.i64.wrap (q3.toNat : Int) % x.most }, ⟨ms, mb, ma, mp, .inl ⟨md, mw, mu, hmm, hmm2⟩⟩, by rw [hm0e, msgF, show q3.toNat % 4 = 0 from by simp only [decide_eq_true_eq, decide_eq_false_iff_not] at *; omega]; rfl, by simp only [setBox_setBox]; rfl, by exact Has.by (by repeat (first | exact trivial | refine ⟨by first | trivial | exact Weak.refl _ | exact Weak.tok _ _ _ | exact Weak.of_eq (congrArg (AV.int _) (by omega)) | exact Weak.nils _ _ (.inr rfl), ?_⟩))⟩
            · exact ⟨{ m with tries := 1 + IntKind.i64.wrap (q3.toNat : Int) % x.most, until_ := (clock : Int) + 1 + IntKind.i64.wrap (q1.toNat : Int) % x.lease }, ⟨ms, mb, ma, mp, .inr (.inl ⟨md, mw, by constructor <;> (dsimp only; omega), by constructor <;> (dsimp only; omega)⟩)⟩, by rw [hm0e, msgF, show q3.toNat % 4 = 1 from by simp only [decide_eq_true_eq, decide_eq_false_iff_not] at *; omega]; rfl, by simp only [setBox_setBox]; rfl, by exact Has.by (by repeat (first | exact trivial | refine ⟨by first | trivial | exact Weak.refl _ | exact Weak.tok _ _ _ | exact Weak.of_eq (congrArg (AV.int _) (by omega)) | exact Weak.nils _ _ (.inr rfl), ?_⟩))⟩
            · exact ⟨{ m with dead := true, tries := x.most, why := wy }, ⟨ms, mb, ma, mp, .inr (.inr ⟨rfl, mu, rfl, hwyl⟩)⟩, by rw [hm0e, msgF, show q3.toNat % 4 = 2 from by simp only [decide_eq_true_eq, decide_eq_false_iff_not] at *; omega]; rw [hwyf]; rfl, by simp only [setBox_setBox]; rfl, by exact Has.by (by repeat (first | exact trivial | refine ⟨by first | trivial | exact Weak.refl _ | exact Weak.tok _ _ _ | exact Weak.of_eq (congrArg (AV.int _) (by omega)) | exact Weak.nils _ _ (.inr rfl), ?_⟩))⟩
            · exact ⟨m, ⟨ms, mb, ma, mp, .inl ⟨md, mw, mu, by omega, by omega⟩⟩, by rw [hm0e, msgF, show q3.toNat % 4 = 3 from by simp only [decide_eq_true_eq, decide_eq_false_iff_not] at *; omega]; rfl, rfl, by exact Has.by (by repeat (first | exact trivial | refine ⟨by first | trivial | exact Weak.refl _ | exact Weak.tok _ _ _ | exact Weak.of_eq (congrArg (AV.int _) (by omega)) | exact Weak.nils _ _ (.inr rfl), ?_⟩))⟩
          · rintro E s3 ⟨m, ⟨ms, hma⟩, hmf, rfl, hE⟩
            refine W.has hE ?_; clear hE
            have hs3 := hs.other (cs := msgC m) h812 hx12 hσ12
            have hb3 := hs3.b
            have hm0 := Moves.refl hs3.mq.room
            refine W.regionL (by decide +kernel) rfl ?_; apply r_op; exact rfl; exact rfl; apply g_fieldAddr; exact a_fieldAddrP rfl (by decide); apply r_load; exact rfl; exact rfl; exact rfl; decide; exact rfl; assumption; exact aLoad1 rfl; apply r_load; exact rfl; exact rfl; exact rfl; decide; exact rfl; exact setBox_same; exact aLoadA rfl (by rfl) rfl; apply r_op; exact rfl; exact rfl
            apply g_buildSlice; apply a_build1; (conv => (lhs; whnf)); exact rfl; exact rfl; decide; apply r_append'; exact rfl; exact rfl; decide; infer_instance; exact rfl; exact rfl; exact rfl; exact rfl; exact rfl; assumption
            simp only [length_aBytes, List.length_append, List.length_cons, List.length_nil, List.length_map, List.length_range]
            omega; intro tk1 σ1 hm; apply r_op; exact rfl; exact rfl; apply g_fieldAddr; exact a_fieldAddrP rfl (by decide); apply r_store; exact rfl; exact rfl; exact rfl; decide; infer_instance; exact rfl; apply hb_moves (by assumption); assumption; (conv => (lhs; whnf)); exact rfl; (conv => (lhs; whnf)); exact rfl; exact of_decide_eq_true rfl; exact rfl; (with_reducible refine runs_done ?_)
            refine W.regionL (by decide +kernel) rfl ?_; apply r_op; exact rfl; exact rfl; apply a_move; (conv => (lhs; whnf)); apply r_op; exact rfl; exact rfl; apply g_binOp; exact a_add64 rfl rfl (by omega); apply r_op; exact rfl; exact rfl; apply a_assign; (conv => (lhs; whnf)); (with_reducible refine runs_done ?_)
            have h9 := hs3.queue (x' := { x with queue := x.queue ++ [m] }) hne hbx hm
            simp only [subC, List.map_append, List.map_cons, List.map_nil] at h9
            obtain ⟨k1, k2⟩ := hgr.msg hup (by rw [ms]; exact hsq1) (by rw [ms]; exact hsq) hq30 hma
            rw [ms] at k2
            exact ⟨100 - (i + 4), by omega, i + 4, seq1, { x with queue := x.queue ++ [m] }, ta, tk1, rfl, by omega, by omega, hsq0, hsq, k1, k2, h9, ⟨n, by omega, by rw [hmf]; exact hR⟩, by exact Has.by (by repeat (first | exact trivial | refine ⟨by first | trivial | exact Weak.refl _ | exact Weak.tok _ _ _ | exact Weak.of_eq (congrArg (AV.int _) (by omega)) | exact Weak.nils _ _ (.inr rfl), ?_⟩))⟩
    · rintro E s ⟨x, ta, tq, hgr, hs, hxe, hE⟩
      refine W.has hE ?_; clear hE
      have hb := hs.b
      have hr := hs.r
      refine W.seq ?_; refine W.regionL (by decide +kernel) rfl ?_; apply r_load; exact rfl; exact rfl; exact rfl; decide; exact rfl; assumption; exact aLoadA rfl (by rfl) rfl; apply r_store; exact rfl; exact rfl; exact rfl; decide; infer_instance; exact rfl; assumption; (conv => (lhs; whnf)); exact rfl; (conv => (lhs; whnf)); exact rfl; exact of_decide_eq_true rfl; exact setL_whole rfl
      (with_reducible refine runs_done ?_); refine W.ret ?_; show Q Exit.ret _ _; refine post_le (σ' := σ) hQ (by apply res_cell; exact rfl; exact setBox_same; exact aLoadA rfl (by rfl) rfl; exact res_nil) rfl (weak_sub x ta tq) (le_setBox hs.ma.le hb8) ?_ (.inl rfl)
      exact ⟨x, rfl, hgr, hxe, rfl⟩
end Go.Proofs.YtgliemhhnkhboaaGreatDoor
end
section
set_option linter.unusedVariables false
set_option linter.unusedSimpArgs false
set_option maxRecDepth 100000
set_option maxHeartbeats 2000000
namespace Go.Proofs.YtgliemhhnkhboaaGreatDoor
open Go.Al Go.RowKit
theorem refWithout_any (w0 : Base) (s : Stt) (id : Int) (hf : Fine s.subs) : CallP Tryz.prog w0 41 [eStt s, .int .i64 id] (eStt { s with subs := wo s.subs id }) := by
  refine CallP.h Ty.tok Ty.mixed Tryz.func41 rfl Tryz.ntmps41 rfl (by simp) (by decide +kernel) fun σ => ?_
  obtain ⟨clock, next, last, l⟩ := s
  dsimp only at hf ⊢
  have hn := hf.n
  (conv => whnf); refine Hid.seq ?_; refine Hid.reg ?_; (conv => whnf); refine SBox.b rfl ?_; (conv => whnf); intro b2 hb2; (conv => whnf); intro b4 hb4; (conv => whnf); refine Hid.seq ?_; refine Hid.reg ?_; (conv => whnf); refine Hid.seq ?_; refine Hid.seq ?_; refine Hid.reg ?_; (conv => whnf); refine Hid.block ?_; refine Hid.loop ?_
  have h4 := le_none (le_new (.refl _) hb2) hb4
  have hle0 : St.Le σ ((σ.setBox b2 [.int .i64 clock, .int .i64 next, .int .i64 last, eSubs l]).setBox b4 [.int .i64 0, .int .i64 0, .int .i64 0, .nils]) := le_setBox (le_setBox (.refl _) hb2) h4
  refine SLoop.by Ty.mixed (fun ((i, tk) : Nat × Tok) => l.length - i) (fun (i, tk) => [(1, .int .i64 id), (2, .ptr b2 0), (4, .ptr b4 0), (5, .slc 10 (wr l id i) tk), (6, .int .i64 i)]) (fun _ => [(b4, [.int .i64 0, .int .i64 0, .int .i64 0, .nils]), (b2, [.int .i64 clock, .int .i64 next, .int .i64 last, eSubs l])])
    (fun (i, tk) τ => i ≤ l.length ∧ Moves ((σ.setBox b2 [.int .i64 clock, .int .i64 next, .int .i64 last, eSubs l]).setBox b4 [.int .i64 0, .int .i64 0, .int .i64 0, .nils]) .full τ tk) (0, .full) ⟨by repeat (first | exact trivial | refine ⟨by first | trivial | exact Weak.refl _ | exact Weak.tok _ _ _ | exact Weak.of_eq (congrArg (AV.int _) (by omega)) | exact Weak.of_eq (congrArg AV.bool (by fail)) | exact Weak.nils _ _ (.inr rfl), ?_⟩), .refl _, Nat.zero_le _, .full _⟩ ?_
  rintro ⟨i, tk⟩ τ ⟨hi, hm⟩
  have hml : (l.map eSub).length = l.length := by simp
  by_cases hlt : i < l.length
  · have ga : (l.map eSub)[i]? = some (eSub l[i]) := by simp [hlt]
    have hwo := wo_take id (List.getElem?_eq_getElem hlt)
    have hwl : (wr l id i).length ≤ 977343669120 := by
      have h1 := wo_len (l.take i) id
      have h2 := List.length_take_le i l
      rw [wr, List.length_map]; omega
    generalize l[i] = x at *
    have e1 : ¬ x.id = id → wr l id (i + 1) = wr l id i ++ [eSub x] := fun h => by rw [wr, hwo, if_neg h, List.map_append]; rfl
    have e2 : x.id = id → wr l id (i + 1) = wr l id i := fun h => by rw [wr, hwo, if_pos h]; rfl
    refine Xc_h ?_; (conv => whnf); refine Hid.seq ?_; refine Hid.seq ?_; refine Hid.reg ?_; (conv => whnf); refine SLoad.on 1 rfl ?_; (conv => whnf); refine Hid.cond rfl ?_; refine SIf.y Ty.mixed (decide_eq_true (by rw [hml]; omega)) ?_; refine Xc_h ?_; (conv => whnf); refine Hid.skip ?_; (conv => whnf); refine Hid.seq ?_; refine Hid.seq ?_; refine Hid.reg ?_; (conv => whnf)
    refine SLoad.on 1 rfl ?_; (conv => whnf)
    refine ⟨_, ⟨by first | omega | (rw [hml]; omega) | (simp only [hml]; omega) | fail, by exact ga⟩, ?_⟩
    (conv => whnf); refine Hid.cond rfl ?_
    by_cases he : x.id = id
    · refine SIf.n Ty.mixed (by simp [he]) ?_
      refine Xc_h ?_; (conv => whnf); refine Hid.skip ?_; (conv => whnf); refine Hid.reg ?_; (conv => whnf); refine ⟨_, IntWalk.i64_in _ (by omega), ?_⟩; (conv => whnf)
      exact ⟨(i + 1, tk), by show l.length - (i + 1) < l.length - i; omega, by show xWeak [(1, .int .i64 id), (2, .ptr b2 0), (4, .ptr b4 0), (5, .slc 10 (wr l id (i + 1)) tk), (6, .int .i64 (i + 1 : Nat))] _; rw [e2 he]; repeat (first | exact trivial | refine ⟨by first | trivial | exact Weak.refl _ | exact Weak.tok _ _ _ | exact Weak.of_eq (congrArg (AV.int _) (by omega)) | exact Weak.of_eq (congrArg AV.bool (by fail)) | exact Weak.nils _ _ (.inr rfl), ?_⟩), .refl _, hlt, hm⟩
    · refine SIf.y Ty.mixed (by simp [he]) ?_
      refine Xc_h ?_; (conv => whnf); refine Hid.reg ?_; (conv => whnf); refine SLoad.on 1 rfl ?_; (conv => whnf)
      refine ⟨_, ⟨by first | omega | (rw [hml]; omega) | (simp only [hml]; omega) | fail, by exact ga⟩, ?_⟩
      (conv => whnf)
      refine SApp.c rfl rfl (by assumption) (by simp only [List.length_cons, List.length_nil]; omega) fun tk1 σ1 hm => ?_
      (conv => whnf); refine Hid.reg ?_; (conv => whnf); refine ⟨_, IntWalk.i64_in _ (by omega), ?_⟩; (conv => whnf)
      exact ⟨(i + 1, tk1), by show l.length - (i + 1) < l.length - i; omega, by show xWeak [(1, .int .i64 id), (2, .ptr b2 0), (4, .ptr b4 0), (5, .slc 10 (wr l id (i + 1)) tk1), (6, .int .i64 (i + 1 : Nat))] _; rw [e1 he]; repeat (first | exact trivial | refine ⟨by first | trivial | exact Weak.refl _ | exact Weak.tok _ _ _ | exact Weak.of_eq (congrArg (AV.int _) (by omega)) | exact Weak.of_eq (congrArg AV.bool (by fail)) | exact Weak.nils _ _ (.inr rfl), ?_⟩), .refl _, hlt, by assumption⟩
  · have hge : i = l.length := by omega
    subst hge
    refine Xc_h ?_; (conv => whnf); refine Hid.seq ?_; refine Hid.seq ?_; refine Hid.reg ?_; (conv => whnf); refine SLoad.on 1 rfl ?_; (conv => whnf); refine Hid.cond rfl ?_; refine SIf.n Ty.mixed (decide_eq_false (by rw [hml]; omega)) ?_; refine Xc_h ?_; (conv => whnf); refine Hid.exit ?_; (conv => whnf); refine Hid.seq ?_; refine Hid.reg ?_; (conv => whnf); refine SStore.on 1 rfl ?_
    (conv => whnf); refine Hid.seq ?_; refine Hid.reg ?_; (conv => whnf); refine SLoad.on 1 rfl ?_; (conv => whnf); refine SStore.on 0 rfl ?_; (conv => whnf); refine Hid.ret ?_; (conv => whnf); refine SLoad.on 0 rfl ?_; (conv => whnf); refine .v (le_setBox (le_setBox (hle0.trans hm.le) hb2) h4) ?_
    rw [eStt, eSubs, wr_all]
    exact .agg (.cons (.refl _) (.cons (.refl _) (.cons (.refl _) (.cons (.tok _ _ _) .nil)))) (by simp [AV.one])
def laidR (x : Sub) (l : List Sub) : Nat → List Sub × Bool
  | 0 => ([], false)
  | i + 1 => match laidR x l i, l[i]? with
    | (r, b), some y => if b = false ∧ x.id < y.id then (r ++ [x, y], true) else (r ++ [y], b)
    | p, none => p
def laidA (x : Sub) (l : List Sub) (i : Nat) : List AV := (laidR x l i).1.map eSub
theorem laidR_ref (x : Sub) (l : List Sub) : ∀ i, i ≤ l.length → (laidR x l i).1 ++ refPut x (l.drop i) (laidR x l i).2 = refPut x l false
  | 0, _ => rfl
  | i + 1, h => by
    have ih := laidR_ref x l i (by omega)
    have hlt : i < l.length := by omega
    rw [List.drop_eq_getElem_cons hlt, refPut] at ih
    rw [← ih, laidR, List.getElem?_eq_getElem hlt]
    generalize laidR x l i = p at *
    obtain ⟨r, b⟩ := p
    dsimp only
    by_cases hc : b = false ∧ x.id < (l[i]).id
    · rw [if_pos hc, if_pos hc]; simp
    · rw [if_neg hc, if_neg hc]; simp
theorem laidR_len (x : Sub) (l : List Sub) : ∀ i, (laidR x l i).1.length ≤ i + 1 ∧ ((laidR x l i).2 = false → (laidR x l i).1.length ≤ i)
  | 0 => ⟨by simp [laidR], fun _ => by simp [laidR]⟩
  | i + 1 => by
    obtain ⟨h1, h2⟩ := laidR_len x l i
    rw [laidR]
    split
    · rename_i r b y e1 e2
      rw [e1] at h1 h2
      dsimp only at h1 h2
      split
      · rename_i hc
        have := h2 hc.1
        exact ⟨by simp; omega, fun h => by cases h⟩
      · exact ⟨by simp; omega, fun h => by have := h2 h; simp; omega⟩
    · exact ⟨by omega, fun h => by have := h2 h; omega⟩
theorem refPut_any (w0 : Base) (s : Stt) (x : Sub) (hf : Fine s.subs) (hxa : x.acks.length ≤ 17592186043904) (hxq : x.queue.length ≤ 1599289640354) : CallP Tryz.prog w0 25 [eStt s, eSub x] (eStt { s with subs := putS s.subs x }) := by
  refine CallP.h Ty.tok Ty.mixed Tryz.func25 rfl Tryz.ntmps25 rfl (by simp) (by decide +kernel) fun σ => ?_
  have hwo := refWithout_any w0 s x.id hf
  have hput := putS_ref s.subs x
  have hwf := hf.wo x.id
  obtain ⟨clock, next, last, l⟩ := s
  dsimp only at hf hwo hput hwf ⊢
  rw [hput]
  generalize wo l x.id = wl at *
  have hn := hwf.n
  (conv => whnf); refine Hid.seq ?_; refine Hid.reg ?_; (conv => whnf); refine SBox.b rfl ?_; (conv => whnf); intro b2 hb2; refine SBox.f ?_; (conv => whnf); intro b4 hb4; (conv => whnf); refine Hid.seq ?_; refine Hid.reg ?_; (conv => whnf); refine SLoad.on 1 rfl ?_; (conv => whnf); refine SCall.p (by exact hwo) ?_; (conv => whnf); intro b5 hb5; (conv => whnf); refine SStore.on 0 rfl ?_
  (conv => whnf); refine Hid.seq ?_; refine Hid.reg ?_; (conv => whnf); refine Hid.seq ?_; refine Hid.reg ?_; (conv => whnf); refine Hid.seq ?_; refine Hid.seq ?_; refine Hid.reg ?_; (conv => whnf); refine Hid.block ?_; refine Hid.loop ?_
  have h4 := le_none (le_new (.refl _) hb2) hb4
  have h5 := le_none (le_new (le_new (.refl _) hb2) hb4) hb5
  have hle0 : St.Le σ (((σ.setBox b2 [.int .i64 clock, .int .i64 next, .int .i64 last, eSubs l]).setBox b4 [.int .i64 0, .int .i64 0, .int .i64 0, .nils]).setBox b5 [.int .i64 clock, .int .i64 next, .int .i64 last, eSubs wl]) := le_setBox (le_setBox (le_setBox (.refl _) hb2) h4) h5
  rw [setBox_setBox]
  refine SLoop.by Ty.mixed (fun ((i, tk) : Nat × Tok) => wl.length - i) (fun (i, tk) => [(2, .ptr b2 0), (3, .vp (eSub x)), (4, .ptr b4 0), (5, .ptr b5 0), (6, .slc 10 (laidA x wl i) tk), (7, .bool (laidR x wl i).2), (8, .int .i64 i)]) (fun _ => [(b5, [.int .i64 clock, .int .i64 next, .int .i64 last, eSubs wl]), (b4, [.int .i64 0, .int .i64 0, .int .i64 0, .nils]), (b2, [.int .i64 clock, .int .i64 next, .int .i64 last, eSubs l])])
    (fun (i, tk) τ => i ≤ wl.length ∧ Moves (((σ.setBox b2 [.int .i64 clock, .int .i64 next, .int .i64 last, eSubs l]).setBox b4 [.int .i64 0, .int .i64 0, .int .i64 0, .nils]).setBox b5 [.int .i64 clock, .int .i64 next, .int .i64 last, eSubs wl]) .full τ tk) (0, .full) ⟨by repeat (first | exact trivial | refine ⟨by first | trivial | exact Weak.refl _ | exact Weak.tok _ _ _ | exact Weak.of_eq (congrArg (AV.int _) (by omega)) | exact Weak.of_eq (congrArg AV.bool (by fail)) | exact Weak.nils _ _ (.inr rfl), ?_⟩), .refl _, Nat.zero_le _, .full _⟩ ?_
  rintro ⟨i, tk⟩ τ ⟨hi, hm⟩
  have hml : (wl.map eSub).length = wl.length := by simp
  have hll := laidR_len x wl i
  have hlA : (laidA x wl i).length ≤ 977343669121 := by rw [laidA, List.length_map]; omega
  by_cases hlt : i < wl.length
  · have ga : (wl.map eSub)[i]? = some (eSub wl[i]) := by simp [hlt]
    have hst : laidR x wl (i + 1) = if (laidR x wl i).2 = false ∧ x.id < (wl[i]).id then ((laidR x wl i).1 ++ [x, wl[i]], true) else ((laidR x wl i).1 ++ [wl[i]], (laidR x wl i).2) := by
      rw [laidR, List.getElem?_eq_getElem hlt]
    generalize wl[i] = y at *
    by_cases hc : (laidR x wl i).2 = false ∧ x.id < y.id
    · rw [if_pos hc] at hst
      have hc1 := hc.1
      have hc2 : decide (x.id < y.id) = true := decide_eq_true hc.2
      have e1 : laidA x wl (i + 1) = laidA x wl i ++ [eSub x] ++ [eSub y] := by rw [laidA, hst]; simp [laidA]
      have e2 : (laidR x wl (i + 1)).2 = true := by rw [hst]
      have hnb : (!(laidR x wl i).2) = true := by rw [hc1]; rfl
      refine Xc_h ?_; (conv => whnf); refine Hid.seq ?_; refine Hid.seq ?_; refine Hid.reg ?_; (conv => whnf); refine SLoad.on 0 rfl ?_; (conv => whnf); refine Hid.cond rfl ?_; refine SIf.y Ty.mixed (decide_eq_true (by rw [hml]; omega)) ?_; refine Xc_h ?_; (conv => whnf); refine Hid.skip ?_; (conv => whnf); refine Hid.seq ?_; refine Hid.seq ?_; refine Hid.seq ?_; refine Hid.regD ?_
      refine SReg.t 1 [] (by decide +kernel) ?_; (conv => whnf); refine SCond.y (by assumption) ?_; (conv => whnf); refine SCond.y (by assumption) ?_; (conv => whnf); refine SLoad.on 0 rfl ?_; (conv => whnf); refine SCond.y (by assumption) ?_; (conv => whnf); refine SCond.y (by assumption) ?_; (conv => whnf)
      refine ⟨_, ⟨by first | omega | (rw [hml]; omega) | (simp only [hml]; omega) | fail, by exact ga⟩, ?_⟩
      (conv => whnf); refine SCond.y (by assumption) ?_; (conv => whnf); refine SCond.y (by assumption) ?_; (conv => whnf); refine SCond.y (by assumption) ?_; (conv => whnf); refine SCond.y (by assumption) ?_; (conv => whnf); refine SCond.y (by assumption) ?_; (conv => whnf); refine SPick.y (by assumption) ?_; (conv => whnf); refine Hid.cond rfl ?_; refine SIf.y Ty.mixed (by assumption) ?_
      refine Xc_h ?_; (conv => whnf); refine Hid.seq ?_; refine Hid.reg ?_; (conv => whnf)
      refine SApp.c rfl rfl (by assumption) (by simp only [List.length_append, List.length_cons, List.length_nil]; omega) fun tk1 σ1 hm => ?_
      (conv => whnf); refine Hid.reg ?_; (conv => whnf); refine Hid.reg ?_; (conv => whnf); refine SLoad.on 0 rfl ?_; (conv => whnf)
      refine ⟨_, ⟨by first | omega | (rw [hml]; omega) | (simp only [hml]; omega) | fail, by exact ga⟩, ?_⟩
      (conv => whnf)
      refine SApp.c rfl rfl (by assumption) (by simp only [List.length_append, List.length_cons, List.length_nil]; omega) fun tk1 σ1 hm => ?_
      (conv => whnf); refine Hid.reg ?_; (conv => whnf); refine ⟨_, IntWalk.i64_in _ (by omega), ?_⟩; (conv => whnf)
      exact ⟨(i + 1, tk1), by show wl.length - (i + 1) < wl.length - i; omega, by show xWeak [(2, .ptr b2 0), (3, .vp (eSub x)), (4, .ptr b4 0), (5, .ptr b5 0), (6, .slc 10 (laidA x wl (i + 1)) tk1), (7, .bool (laidR x wl (i + 1)).2), (8, .int .i64 (i + 1 : Nat))] _; rw [e1, e2]; repeat (first | exact trivial | refine ⟨by first | trivial | exact Weak.refl _ | exact Weak.tok _ _ _ | exact Weak.of_eq (congrArg (AV.int _) (by omega)) | exact Weak.of_eq (congrArg AV.bool (by fail)) | exact Weak.nils _ _ (.inr rfl), ?_⟩), .refl _, hlt, by assumption⟩
    · rw [if_neg hc] at hst
      have e1 : laidA x wl (i + 1) = laidA x wl i ++ [eSub y] := by rw [laidA, hst]; simp [laidA]
      have e2 : (laidR x wl (i + 1)).2 = (laidR x wl i).2 := by rw [hst]
      cases hb : (laidR x wl i).2 with
      | true =>
        have hnb : (!(laidR x wl i).2) = false := by rw [hb]; rfl
        refine Xc_h ?_; (conv => whnf); refine Hid.seq ?_; refine Hid.seq ?_; refine Hid.reg ?_; (conv => whnf); refine SLoad.on 0 rfl ?_; (conv => whnf); refine Hid.cond rfl ?_; refine SIf.y Ty.mixed (decide_eq_true (by rw [hml]; omega)) ?_; refine Xc_h ?_; (conv => whnf); refine Hid.skip ?_; (conv => whnf); refine Hid.seq ?_; refine Hid.seq ?_; refine Hid.seq ?_; refine Hid.regD ?_
        refine SReg.t 1 [] (by decide +kernel) ?_; (conv => whnf); refine SCond.n (by assumption) ?_; (conv => whnf); refine SCond.n (by assumption) ?_; (conv => whnf); refine SCond.n (by assumption) ?_; (conv => whnf); refine SCond.n (by assumption) ?_; (conv => whnf); refine SCond.n (by assumption) ?_; (conv => whnf); refine SCond.n (by assumption) ?_; (conv => whnf)
        refine SCond.n (by assumption) ?_; (conv => whnf); refine SCond.n (by assumption) ?_; (conv => whnf); refine SCond.n (by assumption) ?_; (conv => whnf); refine SPick.n (by assumption) ?_; (conv => whnf); refine Hid.cond rfl ?_; refine SIf.n Ty.mixed (by exact rfl) ?_; refine Xc_h ?_; (conv => whnf); refine Hid.skip ?_; (conv => whnf); refine Hid.reg ?_; (conv => whnf)
        refine SLoad.on 0 rfl ?_; (conv => whnf)
        refine ⟨_, ⟨by first | omega | (rw [hml]; omega) | (simp only [hml]; omega) | fail, by exact ga⟩, ?_⟩
        (conv => whnf)
        refine SApp.c rfl rfl (by assumption) (by simp only [List.length_append, List.length_cons, List.length_nil]; omega) fun tk1 σ1 hm => ?_
        (conv => whnf); refine Hid.reg ?_; (conv => whnf); refine ⟨_, IntWalk.i64_in _ (by omega), ?_⟩; (conv => whnf)
        exact ⟨(i + 1, tk1), by show wl.length - (i + 1) < wl.length - i; omega, by show xWeak [(2, .ptr b2 0), (3, .vp (eSub x)), (4, .ptr b4 0), (5, .ptr b5 0), (6, .slc 10 (laidA x wl (i + 1)) tk1), (7, .bool (laidR x wl (i + 1)).2), (8, .int .i64 (i + 1 : Nat))] _; rw [e1, e2]; repeat (first | exact trivial | refine ⟨by first | trivial | exact Weak.refl _ | exact Weak.tok _ _ _ | exact Weak.of_eq (congrArg (AV.int _) (by omega)) | exact Weak.of_eq (congrArg AV.bool (by fail)) | exact Weak.nils _ _ (.inr rfl), ?_⟩), .refl _, hlt, by assumption⟩
      | false =>
        have hnb : (!(laidR x wl i).2) = true := by rw [hb]; rfl
        have hc2 : decide (x.id < y.id) = false := decide_eq_false fun h => hc ⟨hb, h⟩
        refine Xc_h ?_; (conv => whnf); refine Hid.seq ?_; refine Hid.seq ?_; refine Hid.reg ?_; (conv => whnf); refine SLoad.on 0 rfl ?_; (conv => whnf); refine Hid.cond rfl ?_; refine SIf.y Ty.mixed (decide_eq_true (by rw [hml]; omega)) ?_; refine Xc_h ?_; (conv => whnf); refine Hid.skip ?_; (conv => whnf); refine Hid.seq ?_; refine Hid.seq ?_; refine Hid.seq ?_; refine Hid.regD ?_
        refine SReg.t 1 [] (by decide +kernel) ?_; (conv => whnf); refine SCond.y (by assumption) ?_; (conv => whnf); refine SCond.y (by assumption) ?_; (conv => whnf); refine SLoad.on 0 rfl ?_; (conv => whnf); refine SCond.y (by assumption) ?_; (conv => whnf); refine SCond.y (by assumption) ?_; (conv => whnf)
        refine ⟨_, ⟨by first | omega | (rw [hml]; omega) | (simp only [hml]; omega) | fail, by exact ga⟩, ?_⟩
        (conv => whnf); refine SCond.y (by assumption) ?_; (conv => whnf); refine SCond.y (by assumption) ?_; (conv => whnf); refine SCond.y (by assumption) ?_; (conv => whnf); refine SCond.y (by assumption) ?_; (conv => whnf); refine SCond.y (by assumption) ?_; (conv => whnf); refine SPick.y (by assumption) ?_; (conv => whnf); refine Hid.cond rfl ?_; refine SIf.n Ty.mixed (by assumption) ?_
        refine Xc_h ?_; (conv => whnf); refine Hid.skip ?_; (conv => whnf); refine Hid.reg ?_; (conv => whnf); refine SLoad.on 0 rfl ?_; (conv => whnf)
        refine ⟨_, ⟨by first | omega | (rw [hml]; omega) | (simp only [hml]; omega) | fail, by exact ga⟩, ?_⟩
        (conv => whnf)
        refine SApp.c rfl rfl (by assumption) (by simp only [List.length_append, List.length_cons, List.length_nil]; omega) fun tk1 σ1 hm => ?_
        (conv => whnf); refine Hid.reg ?_; (conv => whnf); refine ⟨_, IntWalk.i64_in _ (by omega), ?_⟩; (conv => whnf)
        exact ⟨(i + 1, tk1), by show wl.length - (i + 1) < wl.length - i; omega, by show xWeak [(2, .ptr b2 0), (3, .vp (eSub x)), (4, .ptr b4 0), (5, .ptr b5 0), (6, .slc 10 (laidA x wl (i + 1)) tk1), (7, .bool (laidR x wl (i + 1)).2), (8, .int .i64 (i + 1 : Nat))] _; rw [e1, e2]; repeat (first | exact trivial | refine ⟨by first | trivial | exact Weak.refl _ | exact Weak.tok _ _ _ | exact Weak.of_eq (congrArg (AV.int _) (by omega)) | exact Weak.of_eq (congrArg AV.bool (by fail)) | exact Weak.nils _ _ (.inr rfl), ?_⟩), .refl _, hlt, by assumption⟩
  · have hge : i = wl.length := by omega
    subst hge
    have hfin := laidR_ref x wl wl.length (Nat.le_refl _)
    rw [List.drop_length, refPut] at hfin
    cases hb : (laidR x wl wl.length).2 with
    | true =>
      have hnb : (!(laidR x wl wl.length).2) = false := by rw [hb]; rfl
      rw [hb, if_pos rfl, List.append_nil] at hfin
      refine Xc_h ?_; (conv => whnf); refine Hid.seq ?_; refine Hid.seq ?_; refine Hid.reg ?_; (conv => whnf); refine SLoad.on 0 rfl ?_; (conv => whnf); refine Hid.cond rfl ?_; refine SIf.n Ty.mixed (decide_eq_false (by rw [hml]; omega)) ?_; refine Xc_h ?_; (conv => whnf); refine Hid.exit ?_; (conv => whnf); refine Hid.seq ?_; refine Hid.seq ?_; refine Hid.reg ?_; (conv => whnf)
      refine Hid.cond rfl ?_; refine SIf.n Ty.mixed (by assumption) ?_; refine Xc_h ?_; (conv => whnf); refine Hid.skip ?_; (conv => whnf); refine Hid.seq ?_; refine Hid.reg ?_; (conv => whnf); refine SStore.on 2 rfl ?_; (conv => whnf); refine Hid.seq ?_; refine Hid.reg ?_; (conv => whnf); refine SLoad.on 2 rfl ?_; (conv => whnf); refine SStore.on 1 rfl ?_; (conv => whnf); refine Hid.ret ?_
      (conv => whnf); refine SLoad.on 1 rfl ?_; (conv => whnf); refine .v (le_setBox (le_setBox (hle0.trans (Moves.le (by assumption))) hb2) h4) ?_
      rw [eStt, eSubs]
      dsimp only
      rw [← hfin]
      exact .agg (.cons (.refl _) (.cons (.refl _) (.cons (.refl _) (.cons (.tok _ _ _) .nil)))) (by simp [AV.one])
    | false =>
      have hnb : (!(laidR x wl wl.length).2) = true := by rw [hb]; rfl
      rw [hb, if_neg (by simp)] at hfin
      refine Xc_h ?_; (conv => whnf); refine Hid.seq ?_; refine Hid.seq ?_; refine Hid.reg ?_; (conv => whnf); refine SLoad.on 0 rfl ?_; (conv => whnf); refine Hid.cond rfl ?_; refine SIf.n Ty.mixed (decide_eq_false (by rw [hml]; omega)) ?_; refine Xc_h ?_; (conv => whnf); refine Hid.exit ?_; (conv => whnf); refine Hid.seq ?_; refine Hid.seq ?_; refine Hid.reg ?_; (conv => whnf)
      refine Hid.cond rfl ?_; refine SIf.y Ty.mixed (by assumption) ?_; refine Xc_h ?_; (conv => whnf); refine Hid.reg ?_; (conv => whnf)
      refine SApp.c rfl rfl (by assumption) (by simp only [List.length_append, List.length_cons, List.length_nil]; omega) fun tk1 σ1 hm => ?_
      (conv => whnf); refine Hid.seq ?_; refine Hid.reg ?_; (conv => whnf); refine SStore.on 2 rfl ?_; (conv => whnf); refine Hid.seq ?_; refine Hid.reg ?_; (conv => whnf); refine SLoad.on 2 rfl ?_; (conv => whnf); refine SStore.on 1 rfl ?_; (conv => whnf); refine Hid.ret ?_; (conv => whnf); refine SLoad.on 1 rfl ?_; (conv => whnf)
      refine .v (le_setBox (le_setBox (hle0.trans (Moves.le (by assumption))) hb2) h4) ?_
      rw [eStt, eSubs]
      dsimp only
      rw [← hfin, List.map_append]
      exact .agg (.cons (.refl _) (.cons (.refl _) (.cons (.refl _) (.cons (.tok _ _ _) .nil)))) (by simp [AV.one])
end Go.Proofs.YtgliemhhnkhboaaGreatDoor
end
section
set_option linter.unusedVariables false
set_option linter.unusedSimpArgs false
set_option maxRecDepth 100000
set_option maxHeartbeats 2000000
namespace Go.Proofs.YtgliemhhnkhboaaGreatDoor
open Go.Al Go.RowKit
def sameT (s t : Stt) : Bool := decide (s.clock = t.clock) && (decide (s.next = t.next) && (decide (s.last = t.last) && decide (s.subs = t.subs)))
end Go.Proofs.YtgliemhhnkhboaaGreatDoor
end
section
set_option linter.unusedVariables false
set_option linter.unusedSimpArgs false
set_option maxRecDepth 100000
set_option maxHeartbeats 2000000
namespace Go.Proofs.YtgliemhhnkhboaaGreatDoor
open Go.Al Go.RowKit
def ovr (fl : Int) (l : List Int) (i : Nat) : List AV := (over fl (l.take i)).map (.int .i64)
end Go.Proofs.YtgliemhhnkhboaaGreatDoor
end
section
set_option linter.unusedVariables false
set_option linter.unusedSimpArgs false
set_option maxRecDepth 100000
set_option maxHeartbeats 2000000
namespace Go.Proofs.YtgliemhhnkhboaaGreatDoor
open Go.Al Go.RowKit
def longM (n : Int) (m : Msg) : Int := IntKind.i64.wrap (n + IntKind.i64.wrap (IntKind.i64.wrap (IntKind.i64.wrap (1 + m.body.length) + m.attr.length) + m.why.length))
def longX (n : Int) (x : Sub) : Int := IntKind.i64.wrap (n + IntKind.i64.wrap (IntKind.i64.wrap (IntKind.i64.wrap (IntKind.i64.wrap (IntKind.i64.wrap (1 + x.name.length) + x.topic.length) + x.want.length) + x.note.length) + (x.acks.map (AV.int .i64)).length))
def longQ (n : Int) (l : List Msg) : Int := l.foldl longM n
def longS (n : Int) (l : List Sub) : Int := l.foldl (fun n x => longQ (longX n x) x.queue) n
theorem refLong_any (w0 : Base) (s : Stt) (hf : Fine s.subs) : CallP Tryz.prog w0 7 [eStt s] (.int .i64 (longS 0 s.subs)) := by
  refine CallP.h Ty.tok Ty.mixed Tryz.func7 rfl Tryz.ntmps7 rfl (by simp) (by decide +kernel) fun σ => ?_
  obtain ⟨clock, next, last, l⟩ := s
  dsimp only at hf ⊢
  have hn := hf.n
  (conv => whnf); refine Hid.seq ?_; refine Hid.reg ?_; (conv => whnf); refine SBox.f ?_; (conv => whnf); refine Hid.seq ?_; refine Hid.reg ?_; (conv => whnf); refine Hid.seq ?_; refine Hid.seq ?_; refine Hid.reg ?_; (conv => whnf); refine Hid.block ?_; refine Hid.loop ?_
  refine SLoop.by Ty.mixed (fun ((i, n) : Nat × Int) => l.length - i) (fun (i, n) => [(1, .vp (eStt ⟨clock, next, last, l⟩)), (3, .int .i64 n), (4, .int .i64 i)]) (fun _ => []) (fun (i, n) τ => i ≤ l.length ∧ longS n (l.drop i) = longS 0 l ∧ St.Le σ τ) (0, 0) ⟨by repeat (first | exact trivial | refine ⟨by first | trivial | exact Weak.refl _ | exact Weak.tok _ _ _ | exact Weak.of_eq (congrArg (AV.int _) (by omega)) | exact Weak.of_eq (congrArg AV.bool (by fail)) | exact Weak.nils _ _ (.inr rfl), ?_⟩), .none _, Nat.zero_le _, rfl, .refl _⟩ ?_
  rintro ⟨i, n⟩ τ ⟨hi, hd, hle⟩
  have hml : (l.map eSub).length = l.length := by simp
  by_cases hlt : i < l.length
  · have ga : (l.map eSub)[i]? = some (eSub l[i]) := by simp [hlt]
    have hxq := hf.q _ (List.getElem_mem hlt)
    rw [List.drop_eq_getElem_cons hlt] at hd
    generalize l[i] = x at *
    refine Xc_h ?_; (conv => whnf); refine Hid.seq ?_; refine Hid.seq ?_; refine Hid.reg ?_; (conv => whnf); refine Hid.cond rfl ?_
    skip
    refine SIf.y Ty.mixed (decide_eq_true (by rw [hml]; omega)) ?_; refine Xc_h ?_; (conv => whnf); refine Hid.skip ?_; (conv => whnf); refine Hid.seq ?_; refine Hid.seq ?_; refine Hid.reg ?_; (conv => whnf)
    refine ⟨_, ⟨by first | omega | (rw [hml]; omega) | (simp only [hml]; omega) | fail, by exact ga⟩, ?_⟩
    (conv => whnf); intro b5 hb5; (conv => whnf); refine SStore.on 0 rfl ?_; (conv => whnf); refine Hid.seq ?_; refine Hid.reg ?_; (conv => whnf); refine SLoad.on 0 rfl ?_; (conv => whnf); refine ⟨_, rfl, ?_⟩; (conv => whnf); refine SLoad.on 0 rfl ?_; (conv => whnf); refine ⟨_, rfl, ?_⟩; (conv => whnf); refine SLoad.on 0 rfl ?_; (conv => whnf); refine ⟨_, rfl, ?_⟩; (conv => whnf)
    refine SLoad.on 0 rfl ?_; (conv => whnf); refine ⟨_, rfl, ?_⟩; (conv => whnf); refine SLoad.on 0 rfl ?_; (conv => whnf); refine ⟨_, rfl, ?_⟩; (conv => whnf); refine ⟨_, rfl, ?_⟩; (conv => whnf); refine Hid.seq ?_; refine Hid.reg ?_; (conv => whnf); refine Hid.block ?_; refine Hid.loop ?_
    refine SLoop.by Ty.mixed (fun ((k, n1) : Nat × Int) => x.queue.length - k) (fun (k, n1) => [(1, .vp (eStt ⟨clock, next, last, l⟩)), (3, .int .i64 n1), (4, .int .i64 i), (5, .ptr b5 0), (6, .int .i64 k)]) (fun _ => [(b5, (eSub x).cells)]) (fun (k, n1) τ1 => k ≤ x.queue.length ∧ longQ n1 (x.queue.drop k) = longQ (longX n x) x.queue ∧ St.Le σ τ1) (0, longX n x) ⟨by repeat (first | exact trivial | refine ⟨by first | trivial | exact Weak.refl _ | exact Weak.tok _ _ _ | exact Weak.of_eq (congrArg (AV.int _) (by omega)) | exact Weak.of_eq (congrArg AV.bool (by fail)) | exact Weak.nils _ _ (.inr rfl), ?_⟩), .refl _, Nat.zero_le _, rfl, le_new2 hle hb5⟩ ?_
    rintro ⟨k, n1⟩ τ1 ⟨hk, hdk, hle1⟩
    have hmq : (x.queue.map eMsg).length = x.queue.length := by simp
    by_cases hlk : k < x.queue.length
    · have gm : (x.queue.map eMsg)[k]? = some (eMsg x.queue[k]) := by simp [hlk]
      rw [List.drop_eq_getElem_cons hlk] at hdk
      generalize x.queue[k] = m at *
      refine Xc_h ?_; (conv => whnf); refine Hid.seq ?_; refine Hid.seq ?_; refine Hid.reg ?_; (conv => whnf); refine SLoad.on 0 rfl ?_; (conv => whnf); refine Hid.cond rfl ?_; refine SIf.y Ty.mixed (decide_eq_true (by rw [hmq]; omega)) ?_; refine Xc_h ?_; (conv => whnf); refine Hid.skip ?_; (conv => whnf); refine Hid.seq ?_; refine Hid.regD ?_; refine SReg.t 1 [] (by decide +kernel) ?_
      (conv => whnf); (conv => whnf); refine SLoad.on 0 rfl ?_; (conv => whnf)
      refine ⟨_, ⟨by first | omega | (rw [hmq]; omega) | (simp only [hmq]; omega) | fail, by exact gm⟩, ?_⟩
      (conv => whnf); refine ⟨_, rfl, ?_⟩; (conv => whnf); refine SLoad.on 0 rfl ?_; (conv => whnf)
      refine ⟨_, ⟨by first | omega | (rw [hmq]; omega) | (simp only [hmq]; omega) | fail, by exact gm⟩, ?_⟩
      (conv => whnf); refine ⟨_, rfl, ?_⟩; (conv => whnf); refine SLoad.on 0 rfl ?_; (conv => whnf)
      refine ⟨_, ⟨by first | omega | (rw [hmq]; omega) | (simp only [hmq]; omega) | fail, by exact gm⟩, ?_⟩
      (conv => whnf); refine ⟨_, rfl, ?_⟩; (conv => whnf); refine ⟨_, rfl, ?_⟩; (conv => whnf); refine Hid.reg ?_; (conv => whnf); refine ⟨_, IntWalk.i64_in _ (by omega), ?_⟩; (conv => whnf)
      exact ⟨(k + 1, longM n1 m), by show x.queue.length - (k + 1) < x.queue.length - k; omega, by repeat (first | exact trivial | refine ⟨by first | trivial | exact Weak.refl _ | exact Weak.tok _ _ _ | exact Weak.of_eq (congrArg (AV.int _) (by omega)) | exact Weak.of_eq (congrArg AV.bool (by fail)) | exact Weak.nils _ _ (.inr rfl), ?_⟩), .refl _, hlk, hdk, hle1⟩
    · have hge : k = x.queue.length := by omega
      rw [hge, List.drop_length] at hdk
      refine Xc_h ?_; (conv => whnf); refine Hid.seq ?_; refine Hid.seq ?_; refine Hid.reg ?_; (conv => whnf); refine SLoad.on 0 rfl ?_; (conv => whnf); refine Hid.cond rfl ?_; refine SIf.n Ty.mixed (decide_eq_false (by rw [hmq]; omega)) ?_; refine Xc_h ?_; (conv => whnf); refine Hid.exit ?_; (conv => whnf); refine Hid.reg ?_; (conv => whnf); refine ⟨_, IntWalk.i64_in _ (by omega), ?_⟩
      (conv => whnf)
      refine ⟨(i + 1, n1), by show l.length - (i + 1) < l.length - i; omega, by repeat (first | exact trivial | refine ⟨by first | trivial | exact Weak.refl _ | exact Weak.tok _ _ _ | exact Weak.of_eq (congrArg (AV.int _) (by omega)) | exact Weak.of_eq (congrArg AV.bool (by fail)) | exact Weak.nils _ _ (.inr rfl), ?_⟩), .none _, hlt, ?_, hle1⟩
      rw [← hd, longS, longS, List.foldl_cons, ← hdk]; rfl
  · have hge : i = l.length := by omega
    rw [hge, List.drop_length] at hd
    refine Xc_h ?_; (conv => whnf); refine Hid.seq ?_; refine Hid.seq ?_; refine Hid.reg ?_; (conv => whnf); refine Hid.cond rfl ?_
    skip
    refine SIf.n Ty.mixed (decide_eq_false (by rw [hml]; omega)) ?_; refine Xc_h ?_; (conv => whnf); refine Hid.exit ?_; (conv => whnf); refine Hid.seq ?_; refine Hid.reg ?_; (conv => whnf); refine Hid.ret ?_; (conv => whnf)
    skip
    exact .p hle (by rw [← hd]; rfl)
end Go.Proofs.YtgliemhhnkhboaaGreatDoor
end
section
set_option linter.unusedVariables false
set_option linter.unusedSimpArgs false
set_option maxRecDepth 100000
set_option maxHeartbeats 2000000
namespace Go.Proofs.YtgliemhhnkhboaaGreatDoor
open Go.Al Go.RowKit
def zT : List AV := [.int .i64 0, .int .i64 0, .int .i64 0, .nils]
theorem cut_bytes (c : List UInt8) (a b : Nat) : ((aBytes c).take b).drop a = aBytes ((c.take b).drop a) := by simp [aBytes, List.map_take, List.map_drop]
def stL (ck nx : Int) (ls : Nat) (c : List UInt8) : Nat → Nat → List Sub → List Sub
  | n + 1, i, l => if ls = 0 ∨ min c.length (3 + 24 * i) = min c.length (27 + 24 * i) then l
    else stL ck nx ls c n (i + 1) (putS l (subF ((c.take (min c.length (27 + 24 * i))).drop (min c.length (3 + 24 * i))) ((1 + (c.getD (min c.length (3 + 24 * i)) 0).toNat % ls : Nat) : Int) ck nx))
  | 0, _, l => l
def stateF (c : List UInt8) : Stt := ⟨((gL c 0 * 7 : Nat) : Int), ((1 + gL c 1 / 4 : Nat) : Int), ((gL c 2 % 8 : Nat) : Int), stL ((gL c 0 * 7 : Nat) : Int) ((1 + gL c 1 / 4 : Nat) : Int) (gL c 2 % 8) c 6 0 []⟩
theorem state_any2 (w0 : Base) (c : List UInt8) (t : Tok) (hc0 : c.length ≤ 9223372036854775807) (σ : St) : CallW Tryz.prog w0 9 [.slc 1 (aBytes c) t] σ (fun r s => ∃ (ck nx ls : Nat) (st : Stt), r = eStt st ∧ GrownS ck nx ls st ∧ st = stateF c ∧ s = σ) := by
  have g0 := gL_lt c 0
  have g1 := gL_lt c 1
  have g2 := gL_lt c 2
  have hla := length_aBytes c
  refine CallW.h (B := []) Ty.tok Ty.mixed Tryz.func9 rfl Tryz.ntmps9 rfl (by simp) (by decide +kernel) (.nil σ) ?_; (conv => whnf); refine Hid.seq ?_; refine Hid.reg ?_; (conv => whnf); intro b2 hb2; (conv => whnf); refine Hid.seq ?_; refine Hid.reg ?_; (conv => whnf); refine SCall.p (by exact g_any w0 c t 0) ?_; (conv => whnf)
  refine ⟨_, IntWalk.i64_in _ (by omega), ?_⟩; (conv => whnf); refine SCall.p (by exact g_any w0 c t 1) ?_; (conv => whnf); refine And.intro (by omega) ?_; (conv => whnf); refine ⟨_, IntWalk.i64_in _ (by omega), ?_⟩; (conv => whnf); refine SCall.p (by exact g_any w0 c t 2) ?_; (conv => whnf); refine And.intro (by omega) ?_; (conv => whnf); intro b3 hb3; (conv => whnf); refine SStore.on 0 rfl ?_
  (conv => whnf); refine Hid.seq ?_; refine Hid.seq ?_; refine Hid.reg ?_; (conv => whnf); refine Hid.block ?_; refine Hid.loop ?_
  have h3 := le_none (le_new (.refl _) hb2) hb3
  have n23 : b3 ≠ b2 := by rintro rfl; rw [setBox_same] at hb3; cases hb3
  obtain ⟨ck, hck⟩ : ∃ n : Nat, n = gL c 0 * 7 := ⟨_, rfl⟩
  obtain ⟨nx, hnx⟩ : ∃ n : Nat, n = 1 + gL c 1 / 4 := ⟨_, rfl⟩
  obtain ⟨ls, hls⟩ : ∃ n : Nat, n = gL c 2 % 8 := ⟨_, rfl⟩
  rw [show ((gL c 0 : Int) * 7) = (ck : Int) by omega, show (1 + (gL c 1 : Int) / 4) = (nx : Int) by omega, show ((gL c 2 : Int) % 8) = (ls : Int) by omega]
  have hSt : stateF c = ⟨(ck : Int), (nx : Int), (ls : Int), stL (ck : Int) (nx : Int) ls c 6 0 []⟩ := by rw [hck, hnx, hls]; rfl
  refine SLoop.weakBox (ds := [.int .i64 ck, .int .i64 nx, .int .i64 ls, eSubs []]) 0 rfl (.cons (.refl _) (.cons (.refl _) (.cons (.refl _) (.cons (.nils 10 .no (.inl rfl)) .nil)))) ?_
  refine SLoop.by Ty.mixed (fun ((i, l) : Nat × List Sub) => 6 - i) (fun (i, l) => [(0, .slc 1 (aBytes c) t), (2, .ptr b2 0), (3, .ptr b3 0), (4, .int .i64 i)]) (fun (i, l) => [(b3, [.int .i64 ck, .int .i64 nx, .int .i64 ls, eSubs l]), (b2, zT)]) (fun (i, l) τ => i ≤ 6 ∧ GrownS ck nx ls ⟨ck, nx, ls, l⟩ ∧ stL ck nx ls c (6 - i) i l = stL ck nx ls c 6 0 [] ∧ St.Le σ τ) (0, []) ⟨by repeat (first | exact trivial | refine ⟨by first | trivial | exact Weak.refl _ | exact Weak.tok _ _ _ | exact Weak.of_eq (congrArg (AV.int _) (by omega)) | exact Weak.of_eq (congrArg AV.bool (by fail)) | exact Weak.nils _ _ (.inr rfl), ?_⟩), .refl _, by omega, ⟨rfl, by omega, rfl, by omega, rfl, by omega, List.Pairwise.nil, by simp⟩, rfl, le_setBox (le_setBox (le_setBox (le_setBox (.refl _) hb2) h3) h3) h3⟩ ?_
  clear hb3 hck hnx hls g0 g1 g2; rintro ⟨i, l⟩ τ ⟨hi, hg, hR, hle⟩
  generalize hG : stL (ck : Int) (nx : Int) ls c 6 0 [] = G at hR hSt ⊢
  clear hG
  have hls7 := hg.lsle
  have hnx1 := hg.nxle
  have hck1 := hg.ckle
  by_cases hgo : i < 6 ∧ 0 < ls
  · obtain ⟨hi6, hl0⟩ := hgo
    have d1 : decide ((i : Int) < 6) = true := decide_eq_true (by omega)
    have d2 : decide (0 < (ls : Int)) = true := decide_eq_true (by omega)
    rw [show 6 - i = (6 - (i + 1)) + 1 by omega, stL] at hR
    refine Xc_h ?_; (conv => whnf); refine Hid.seq ?_; refine Hid.seq ?_; refine Hid.reg ?_; (conv => whnf); refine SCond.y (by assumption) ?_; (conv => whnf); refine SCond.y (by assumption) ?_; (conv => whnf); refine SLoad.on 0 rfl ?_; (conv => whnf); refine SCond.y (by assumption) ?_; (conv => whnf); refine SPick.y (by assumption) ?_; (conv => whnf); refine Hid.cond rfl ?_
    refine SIf.y Ty.mixed (by assumption) ?_; refine Xc_h ?_; (conv => whnf); refine Hid.skip ?_; (conv => whnf); refine Hid.seq ?_; refine Hid.seq ?_; refine Hid.reg ?_; (conv => whnf); refine ⟨_, IntWalk.i64_in _ (by omega), ?_⟩; (conv => whnf); refine ⟨_, IntWalk.i64_in _ (by omega), ?_⟩; (conv => whnf); refine Hid.seq ?_; refine Hid.reg ?_; (conv => whnf)
    refine ⟨_, IntWalk.i64_in _ (by omega), ?_⟩; (conv => whnf); refine ⟨_, IntWalk.i64_in _ (by omega), ?_⟩; (conv => whnf); refine Hid.seq ?_; refine Hid.seq ?_; refine Hid.reg ?_; (conv => whnf); refine Hid.cond rfl ?_
    rw [show min ((aBytes c).length : Int) (3 + 24 * (i : Int)) = ((min c.length (3 + 24 * i) : Nat) : Int) by rw [hla]; omega, show min ((aBytes c).length : Int) (27 + 24 * (i : Int)) = ((min c.length (27 + 24 * i) : Nat) : Int) by rw [hla]; omega]
    by_cases hab : min c.length (3 + 24 * i) = min c.length (27 + 24 * i)
    · rw [if_pos (.inr hab)] at hR
      refine SIf.y Ty.mixed (decide_eq_true (by omega)) ?_; refine Xc_h ?_; (conv => whnf); refine Hid.exit ?_; (conv => whnf); refine Hid.seq ?_; refine Hid.reg ?_; (conv => whnf); refine SLoad.on 0 rfl ?_; (conv => whnf); refine SStore.on 1 rfl ?_; (conv => whnf); refine Hid.ret ?_; (conv => whnf); refine SLoad.on 1 rfl ?_; (conv => whnf)
      exact ⟨fun _ => ⟨_, σ, .refl _, le_setBox hle hb2, ck, nx, ls, ⟨ck, nx, ls, l⟩, rfl, hg, by rw [hSt, ← hR], rfl⟩⟩
    · rw [if_neg (by omega)] at hR
      refine SIf.n Ty.mixed (decide_eq_false (by omega)) ?_
      have ha : min c.length (3 + 24 * i) < c.length := by omega
      have hab2 : min c.length (3 + 24 * i) ≤ min c.length (27 + 24 * i) := by omega
      have hbl : min c.length (27 + 24 * i) ≤ c.length := by omega
      generalize min c.length (3 + 24 * i) = a at *
      generalize min c.length (27 + 24 * i) = b at *
      have ga : (aBytes c)[a]? = some (.int .u8 (c.getD a 0).toNat) := get_bytes (by simp [List.getD, ha])
      have hu := (c.getD a 0).toNat_lt
      generalize c.getD a 0 = q at *
      have hsub := fun σ => sub_any2 w0 ((c.take b).drop a) .no (1 + q.toNat % ls) ck nx (by rw [List.length_drop, List.length_take]; omega) (by have := Nat.mod_lt q.toNat hl0; omega) (by omega) (by omega) σ
      have hm1 := Int.emod_nonneg (q.toNat : Int) (show (ls : Int) ≠ 0 by omega)
      have hm2 := Int.emod_lt_of_pos (q.toNat : Int) (show (0 : Int) < (ls : Int) by omega)
      have hm3 : 1 + q.toNat % ls ≤ ls := by have := Nat.mod_lt q.toNat hl0; omega
      refine Xc_h ?_; (conv => whnf); refine Hid.skip ?_; (conv => whnf); refine Hid.seq ?_; refine Hid.regD ?_; refine SReg.t 1 [] (by decide +kernel) ?_; (conv => whnf)
      refine ⟨_, ⟨by first | omega | (rw [hla]; omega) | (simp only [hla]; omega) | fail, by exact ga⟩, ?_⟩
      (conv => whnf); refine ⟨_, IntWalk.i64_in _ (by omega), ?_⟩; (conv => whnf); refine SLoad.on 0 rfl ?_; (conv => whnf); refine And.intro (by omega) ?_; (conv => whnf); refine ⟨_, IntWalk.i64_in _ (by omega), ?_⟩; (conv => whnf); refine Hid.regD ?_; refine SReg.h 0 rfl [0, 1, 2, 3, 4, 5, 6, 7, 8, 9, 10, 11, 12] [3, 0, 0, 0, 0, 0, 0, 3, 0, 3, 4, 0, 2] (by decide +kernel) ?_; (conv => whnf)
      (conv => whnf); refine SLoadH.on 0 rfl rfl ?_; (conv => whnf); refine And.intro (by omega) ?_; (conv => whnf); refine ⟨_, cut_bytes c a b, ?_⟩; (conv => whnf); refine SLoadH.on 0 rfl rfl ?_; (conv => whnf); refine SLoadH.on 0 rfl rfl ?_; (conv => whnf); refine SCall.w4 (hsub _) rfl ?_; rintro r s ⟨x, rfl, hx, hxf, rfl⟩ hB
      refine ⟨⟨_, hB, ?_⟩, fun h => h⟩
      have hput := refPut_any w0 ⟨ck, nx, ls, l⟩ x hg.fine (by have := hx.nacks; omega) (by have := hx.nqueue; omega)
      have hg2 := hg.put hx (by omega) hm3
      (conv => whnf); refine SCall.p (by exact hput) ?_; (conv => whnf); refine SStore.on 0 rfl ?_; (conv => whnf); refine Hid.reg ?_; (conv => whnf); refine ⟨_, IntWalk.i64_in _ (by omega), ?_⟩; (conv => whnf)
      exact ⟨(i + 1, putS l x), by show 6 - (i + 1) < 6 - i; omega, by repeat (first | exact trivial | refine ⟨by first | trivial | exact Weak.refl _ | exact Weak.tok _ _ _ | exact Weak.of_eq (congrArg (AV.int _) (by omega)) | exact Weak.of_eq (congrArg AV.bool (by fail)) | exact Weak.nils _ _ (.inr rfl), ?_⟩), .refl _, hi6, hg2, by rw [hxf]; exact hR, le_setBox hle h3⟩
  · by_cases hi6 : i < 6
    · have d1 : decide ((i : Int) < 6) = true := decide_eq_true (by omega)
      have d2 : decide (0 < (ls : Int)) = false := decide_eq_false (by omega)
      rw [show 6 - i = (6 - (i + 1)) + 1 by omega, stL, if_pos (.inl (by omega))] at hR
      refine Xc_h ?_; (conv => whnf); refine Hid.seq ?_; refine Hid.seq ?_; refine Hid.reg ?_; (conv => whnf); refine SCond.y (by assumption) ?_; (conv => whnf); refine SCond.y (by assumption) ?_; (conv => whnf); refine SLoad.on 0 rfl ?_; (conv => whnf); refine SCond.y (by assumption) ?_; (conv => whnf); refine SPick.y (by assumption) ?_; (conv => whnf); refine Hid.cond rfl ?_
      refine SIf.n Ty.mixed (by assumption) ?_; refine Xc_h ?_; (conv => whnf); refine Hid.exit ?_; (conv => whnf); refine Hid.seq ?_; refine Hid.reg ?_; (conv => whnf); refine SLoad.on 0 rfl ?_; (conv => whnf); refine SStore.on 1 rfl ?_; (conv => whnf); refine Hid.ret ?_; (conv => whnf); refine SLoad.on 1 rfl ?_; (conv => whnf)
      exact ⟨fun _ => ⟨_, σ, .refl _, le_setBox hle hb2, ck, nx, ls, ⟨ck, nx, ls, l⟩, rfl, hg, by rw [hSt, ← hR], rfl⟩⟩
    · have d1 : decide ((i : Int) < 6) = false := decide_eq_false (by omega)
      rw [show 6 - i = 0 by omega, stL] at hR
      refine Xc_h ?_; (conv => whnf); refine Hid.seq ?_; refine Hid.seq ?_; refine Hid.reg ?_; (conv => whnf); refine SCond.n (by assumption) ?_; (conv => whnf); refine SCond.n (by assumption) ?_; (conv => whnf); refine SCond.n (by assumption) ?_; (conv => whnf); refine SPick.n (by assumption) ?_; (conv => whnf); refine Hid.cond rfl ?_; refine SIf.n Ty.mixed (by exact rfl) ?_; refine Xc_h ?_
      (conv => whnf); refine Hid.exit ?_; (conv => whnf); refine Hid.seq ?_; refine Hid.reg ?_; (conv => whnf); refine SLoad.on 0 rfl ?_; (conv => whnf); refine SStore.on 1 rfl ?_; (conv => whnf); refine Hid.ret ?_; (conv => whnf); refine SLoad.on 1 rfl ?_; (conv => whnf)
      exact ⟨fun _ => ⟨_, σ, .refl _, le_setBox hle hb2, ck, nx, ls, ⟨ck, nx, ls, l⟩, rfl, hg, by rw [hSt, ← hR], rfl⟩⟩
theorem state_any (w0 : Base) (c : List UInt8) (t : Tok) (hc0 : c.length ≤ 9223372036854775807) (σ : St) : CallW Tryz.prog w0 9 [.slc 1 (aBytes c) t] σ (fun r s => ∃ (ck nx ls : Nat) (st : Stt), r = eStt st ∧ GrownS ck nx ls st ∧ s = σ) :=
  (state_any2 w0 c t hc0 σ).mono fun r s ⟨ck, nx, ls, st, h1, h2, _, h3⟩ => ⟨ck, nx, ls, st, h1, h2, h3⟩
end Go.Proofs.YtgliemhhnkhboaaGreatDoor
end
section
set_option linter.unusedVariables false
set_option linter.unusedSimpArgs false
set_option maxRecDepth 100000
set_option maxHeartbeats 2000000
namespace Go.Proofs.YtgliemhhnkhboaaGreatDoor
open Go.Al Go.RowKit
def zSub : List AV := [.int .i64 0, .str [], .str [], .str [], .int .i64 0, .int .i64 0, .int .i64 0, .nils, .nils, .str []]
theorem Fine.put {l : List Sub} (h : Fine l) (hn : l.length ≤ 977343669119) {x : Sub} (ha : x.acks.length ≤ 17592186043904) (hq : x.queue.length ≤ 1599289640354) : Fine (putS l x) := by
  refine ⟨?_, fun y hy => ?_, fun y hy => ?_⟩
  · have h1 : (upto (_root_.Go.Proofs.YtgliemhhnkhboaaGreatDoor.wo l x.id) x.id ++ beyond (_root_.Go.Proofs.YtgliemhhnkhboaaGreatDoor.wo l x.id) x.id).length = (_root_.Go.Proofs.YtgliemhhnkhboaaGreatDoor.wo l x.id).length := by rw [upto_beyond]
    have h2 := wo_len l x.id
    rw [List.length_append] at h1
    rw [putS, List.length_append, List.length_cons]
    omega
  · rcases mem_put.1 hy with rfl | ⟨hy, _⟩
    · exact ha
    · exact h.a y hy
  · rcases mem_put.1 hy with rfl | ⟨hy, _⟩
    · exact hq
    · exact h.q y hy
end Go.Proofs.YtgliemhhnkhboaaGreatDoor
end
section
set_option linter.unusedVariables false
set_option linter.unusedSimpArgs false
set_option maxRecDepth 100000
set_option maxHeartbeats 2000000
namespace Go.Proofs.YtgliemhhnkhboaaGreatDoor
open Go.Al Go.RowKit
end Go.Proofs.YtgliemhhnkhboaaGreatDoor
end
section
set_option linter.unusedVariables false
set_option linter.unusedSimpArgs false
set_option maxRecDepth 100000
namespace Go.Proofs.YtgliemhhnkhboaaGreatDoor
open Go.Al Go.RowKit
section
variable {H : Type} {enc : TypeId × Value → H} {W : World}
def I64 (n : Int) : Prop := -9223372036854775808 ≤ n ∧ n ≤ 9223372036854775807
theorem int_in (n : Int) (h : (Lit.int .i64 n).wf = true) : I64 n := by simpa [I64, Lit.wf, IntKind.min, IntKind.max, IntKind.signed, IntKind.bits] using h
theorem eMsg_lay (m : Msg) : (eMsg m).cells.length = 8 ∧ ∀ c ∈ (eMsg m).cells, c.one = true := ⟨rfl, fun c hc => by
  simp only [eMsg, AV.cells, List.mem_cons, List.not_mem_nil, or_false] at hc
  rcases hc with rfl | rfl | rfl | rfl | rfl | rfl | rfl | rfl <;> rfl⟩
theorem eSub_lay (x : Sub) : (eSub x).cells.length = 10 ∧ ∀ c ∈ (eSub x).cells, c.one = true := ⟨rfl, fun c hc => by
  simp only [eSub, AV.cells, List.mem_cons, List.not_mem_nil, or_false] at hc
  rcases hc with rfl | rfl | rfl | rfl | rfl | rfl | rfl | rfl | rfl | rfl <;> rfl⟩
theorem eStt_lay (s : Stt) : (eStt s).cells.length = 4 ∧ ∀ c ∈ (eStt s).cells, c.one = true := ⟨rfl, fun c hc => by
  simp only [eStt, AV.cells, List.mem_cons, List.not_mem_nil, or_false] at hc
  rcases hc with rfl | rfl | rfl | rfl <;> rfl⟩
structure MsgIn (m : Msg) : Prop where
  body : m.body.length ≤ 1000000000000000
  attr : m.attr.length ≤ 1000000000000000
  why : m.why.length ≤ 1000000000000000
structure SubIn (x : Sub) : Prop where
  name : x.name.length ≤ 1000000000000000
  topic : x.topic.length ≤ 1000000000000000
  want : x.want.length ≤ 1000000000000000
  note : x.note.length ≤ 1000000000000000
  lease : I64 x.lease
  most : I64 x.most
  floor : I64 x.floor
  acks : x.acks.length * 8 ≤ 140737488351232
  acksIn : ∀ a ∈ x.acks, I64 a
  queue : x.queue.length * 88 ≤ 140737488351232
  msgs : ∀ m ∈ x.queue, MsgIn m
structure SttIn (s : Stt) : Prop where
  clock : I64 s.clock
  next : I64 s.next
  last : I64 s.last
  subs : s.subs.length * 144 ≤ 140737488351232
  all : ∀ x ∈ s.subs, SubIn x
end
end Go.Proofs.YtgliemhhnkhboaaGreatDoor
end
section
set_option linter.unusedVariables false
set_option linter.unusedSimpArgs false
namespace Go.Proofs.YtgliemhhnkhboaaGreatDoor
open Go.RowKit Go.Al
section
variable {H : Type} {enc : TypeId × Value → H} {P : Program} {W : World}
theorem bulk_one (d : DataW H) : 1 ≤ Rows.uptoBulk d := by
  cases d with
  | lit l => cases l <;> simp [Rows.uptoBulk]
  | _ => simp [Rows.uptoBulk]
theorem bulk_part {d : DataW H} : ∀ {l : List (DataW H)}, d ∈ l → Rows.uptoBulk d ≤ Rows.uptoBulkAll l
  | x :: r, h => by
    rw [Rows.uptoBulkAll]
    rcases List.mem_cons.1 h with rfl | h
    · omega
    · have := bulk_part h; omega
theorem bulk_len : ∀ l : List (DataW H), l.length ≤ Rows.uptoBulkAll l
  | [] => by simp
  | x :: r => by
    have := bulk_one x
    have := bulk_len r
    rw [Rows.uptoBulkAll, List.length_cons]; omega
theorem bulk_slice (e s : List (DataW H)) : Rows.uptoBulk (.slice e s) = Rows.uptoBulkAll e + Rows.uptoBulkAll s + 1 := by rw [Rows.uptoBulk]
theorem bulk_agg (e : List (DataW H)) : Rows.uptoBulk (.agg e) = Rows.uptoBulkAll e + 1 := by rw [Rows.uptoBulk]
theorem bulk_str (s : List UInt8) : Rows.uptoBulk (DataW.lit (H := H) (.string s)) = s.length + 1 := by rw [Rows.uptoBulk]
theorem bulk_arg {N : Nat} {l : List (DataW H)} (h : Rows.uptoBulkAll l ≤ N) {j : Nat} {d : DataW H} (hj : l[j]? = some d) : Rows.uptoBulk d ≤ N :=
  Nat.le_trans (bulk_part (List.mem_of_getElem? hj)) h
structure OpensU (enc : TypeId × Value → H) (P : Program) (W : World) (N : Nat) (t : TypeId) (k : Nat) {α : Type} (mk : α → List AV) (Q : α → Prop) : Prop where
  size : P.cellsOf t = k
  lay : ∀ y, (mk y).length = k ∧ ∀ c ∈ mk y, c.one = true
  go : ∀ (fuel : Nat) (cs : List Value) (x : DataW H × List MemPlace), DataW.trod enc P W 0 (fun _ => true) true fuel t cs = some x → Rows.uptoBulk x.1 ≤ N → ∃ y, Q y ∧ RelL (Al.G0 W) W (mk y) cs
variable {N : Nat}
theorem OpensU.map {t : TypeId} {k : Nat} {α β : Type} {mk : α → List AV} {mk' : β → List AV} {Q : α → Prop} {Q' : β → Prop} (h : OpensU enc P W N t k mk Q) (g : α → β) (h1 : ∀ y, mk' (g y) = mk y) (h2 : ∀ y, Q y → Q' (g y)) (hl : ∀ z, (mk' z).length = k ∧ ∀ c ∈ mk' z, c.one = true) : OpensU enc P W N t k mk' Q' :=
  ⟨h.size, hl, fun fuel cs x hx hw => by
    obtain ⟨y, q, r⟩ := h.go fuel cs x hx hw
    exact ⟨g y, h2 y q, by rw [h1]; exact r⟩⟩
theorem OpensU.int {t : TypeId} {ik : IntKind} {Q : Int → Prop} (ht : P.underlying t = some (.int ik)) (hs : P.cellsOf t = 1) (hq : ∀ n, (Lit.int ik n).wf = true → Q n) : OpensU enc P W N t 1 (fun n : Int => [.int ik n]) Q :=
  ⟨hs, fun y => ⟨rfl, fun c hc => by simp at hc; subst hc; rfl⟩, fun fuel cs x hx hw => by
    obtain ⟨n, rfl, rfl, h⟩ := DataW.trod_int ht hx
    exact ⟨n, hq n h, .cons (.int _ _) .nil⟩⟩
theorem OpensU.bool {t : TypeId} (ht : P.underlying t = some .bool) (hs : P.cellsOf t = 1) : OpensU enc P W N t 1 (fun b : Bool => [.bool b]) (fun _ => True) :=
  ⟨hs, fun y => ⟨rfl, fun c hc => by simp at hc; subst hc; rfl⟩, fun fuel cs x hx hw => by
    obtain ⟨n, rfl, rfl⟩ := DataW.trod_bool ht hx
    exact ⟨n, trivial, .cons (.bool _) .nil⟩⟩
theorem OpensU.str {t : TypeId} (ht : P.underlying t = some .string) (hs : P.cellsOf t = 1) : OpensU enc P W N t 1 (fun s : List UInt8 => [.str s]) (fun s => s.length ≤ N) :=
  ⟨hs, fun y => ⟨rfl, fun c hc => by simp at hc; subst hc; rfl⟩, fun fuel cs x hx hw => by
    obtain ⟨s, rfl, rfl, h⟩ := DataW.trod_string ht hx
    rw [bulk_str] at hw
    exact ⟨s.data.toList, by omega, .cons (str_rel s) .nil⟩⟩
theorem opensU_rows {e : TypeId} {k : Nat} {α : Type} {mk : α → List AV} {Q : α → Prop} (h : OpensU enc P W N e k mk Q) (fuel : Nat) (a : Addr) : ∀ len : Nat,
    (∀ i, i < len → ∃ cs x, W.cells? 0 (a.add (i * k)) k = some cs ∧ DataW.trod enc P W 0 (fun _ => true) true fuel e cs = some x ∧ Rows.uptoBulk x.1 ≤ N) →
    ∃ (ys : List α) (vs : List Value), ys.length = len ∧ (∀ y ∈ ys, Q y) ∧ vs.length = len * k ∧ (∀ j, j < len * k → W.cell? (a.add j) = vs[j]?) ∧ RelL (Al.G0 W) W (ys.flatMap mk) vs
  | 0, _ => ⟨[], [], rfl, (fun y hy => by cases hy), (by simp), (fun j hj => by omega), .nil⟩
  | n + 1, hx => by
    obtain ⟨ys, vs, h1, h2, h3, h4, h5⟩ := opensU_rows h fuel a n fun i hi => hx i (by omega)
    obtain ⟨cs, x, c1, c2, c3⟩ := hx n (by omega)
    obtain ⟨_, c5, c6⟩ := World.cells?_some c1
    obtain ⟨y, q, r⟩ := h.go _ _ _ c2 c3
    have e1 : (n + 1) * k = n * k + k := by rw [Nat.add_mul, Nat.one_mul]
    refine ⟨ys ++ [y], vs ++ cs, by simp [h1], fun z hz => ?_, by simp [h3, c5, e1], fun j hj => ?_, by simpa using h5.append r⟩
    · rcases List.mem_append.1 hz with hz | hz
      · exact h2 z hz
      · rw [List.mem_singleton.1 hz]; exact q
    · by_cases hj2 : j < n * k
      · rw [h4 j hj2, List.getElem?_append_left (by omega)]
      · have h6 := c6 (j - n * k) (by omega)
        rw [List.getElem?_append_right (by omega), h3, ← h6]
        congr 1
        unfold Addr.add
        by_cases z1 : n * k = 0
        · simp [z1]
        · by_cases z2 : j - n * k = 0
          · have : j = n * k := by omega
            simp [z1, z2, this]
          · have : j ≠ 0 := by omega
            simp [z1, z2, this]; omega
theorem OpensU.slice {t e : TypeId} {k : Nat} {α : Type} {mk : α → List AV} {Q : α → Prop} (h : OpensU enc P W N e k mk Q) (one : α → AV) (ho : ∀ y, (one y).cells = mk y) (hk : 0 < k)
    (ht : P.underlying t = some (.slice e)) (hs : P.cellsOf t = 1) : OpensU enc P W N t 1 (fun l : List α => [.slc k (l.map one) .no]) (fun l => l.length ≤ N ∧ ∀ y ∈ l, Q y) :=
  ⟨hs, fun y => ⟨rfl, fun c hc => by simp at hc; subst hc; rfl⟩, fun fuel cs x hx hw => by
    rcases DataW.trod_slice ht hx with ⟨rfl, rfl⟩ | ⟨a, len, cap, elems, rest, n, rfl, rfl, rfl, hba, hl, hc, hel, hrow, _, _⟩
    · exact ⟨[], ⟨by simp, fun y hy => by cases hy⟩, .cons (.slc (vs := []) rfl (Nat.le_refl _) (Nat.zero_le _) (fun y hy => by cases hy) .nil (fun k v hk => by simp at hk) trivial) .nil⟩
    · rw [bulk_slice] at hw
      have hlb := bulk_len (elems.map (·.1))
      rw [List.length_map] at hlb
      obtain ⟨ys, vs, h1, h2, h3, h4, h5⟩ := opensU_rows h n a len fun i hi => by
        have hr := hrow i hi
        rw [h.size] at hr
        obtain ⟨x, hx⟩ : ∃ x, elems[i]? = some x := ⟨_, List.getElem?_eq_getElem (by omega)⟩
        rw [hx] at hr
        obtain ⟨cs, k1, k2⟩ := Option.bind_eq_some_iff.1 hr
        have hmem : x.1 ∈ elems.map (·.1) := List.mem_map.2 ⟨x, List.mem_of_getElem? hx, rfl⟩
        have := bulk_part hmem
        exact ⟨cs, x, k1, k2, by omega⟩
      refine ⟨ys, ⟨by omega, h2⟩, .cons (.slc (vs := vs) (by simp [h1]) hl hc (fun z hz => ?_) ?_ (fun j v hj => ?_) trivial) .nil⟩
      · obtain ⟨y, _, rfl⟩ := List.mem_map.1 hz
        rw [ho]; exact h.lay y
      · have : (ys.map one).flatMap AV.cells = ys.flatMap mk := by
          clear h1 h2 h4 h5
          induction ys with
          | nil => rfl
          | cons y l ih => simp only [List.map_cons, List.flatMap_cons, ih, ho]
        rw [this]; exact h5
      · have hjl : j < len * k := by
          obtain ⟨h, _⟩ := List.getElem?_eq_some_iff.1 hj
          omega
        have hpos : 0 < len * k := by omega
        have hc0 := h4 0 hpos
        have hcj := h4 j hjl
        rw [hj] at hcj
        obtain ⟨v0, hv0⟩ : ∃ v0, vs[0]? = some v0 := ⟨_, List.getElem?_eq_getElem (by omega)⟩
        rw [hv0] at hc0
        have e0 : a.add 0 = a := rfl
        rw [e0] at hc0
        have hblk : a.block < W.heap.size := World.block_lt_of_cell? W _ hc0
        have hspot : a.spot = none := by
          unfold World.cell? at hc0
          cases hs : a.spot with
          | none => rfl
          | some s => rw [hs] at hc0; split at hc0 <;> simp at hc0
        obtain ⟨b, o, sp⟩ := a
        simp only at hspot hblk
        subst hspot
        refine ⟨b, o, rfl, .inl hblk, ?_⟩
        rw [← hcj]
        unfold Addr.add
        by_cases hj0 : j = 0
        · subst hj0; simp
        · simp [hj0]⟩
structure OpensFU (enc : TypeId × Value → H) (P : Program) (W : World) (N : Nat) (fs : List Field) (off k : Nat) {α : Type} (mk : α → List AV) (Q : α → Prop) : Prop where
  lay : ∀ y, (mk y).length = k ∧ ∀ c ∈ mk y, c.one = true
  go : ∀ (fuel : Nat) (cs : List Value) (xs : List (DataW H × List MemPlace)), (∀ (i : Nat) (f : Field), fs[i]? = some f → DataW.trod enc P W 0 (fun _ => true) true fuel f.type ((cs.drop f.offset).take (P.cellsOf f.type)) = xs[i]?) →
    xs.length = fs.length → Rows.uptoBulkAll (xs.map (·.1)) ≤ N → cs.length = off + k → ∃ y, Q y ∧ RelL (Al.G0 W) W (mk y) (cs.drop off)
theorem OpensFU.nil {off : Nat} : OpensFU enc P W N [] off 0 (fun _ : Unit => []) (fun _ => True) :=
  ⟨fun y => ⟨rfl, fun c hc => by cases hc⟩, fun fuel cs xs h hl hw hc => ⟨(), trivial, by rw [List.drop_eq_nil_of_le (by omega)]; exact .nil⟩⟩
theorem OpensFU.cons {f : Field} {fs : List Field} {off k n : Nat} {α β : Type} {mk : α → List AV} {mk' : β → List AV} {Q : α → Prop} {Q' : β → Prop} (ho : f.offset = off) (h : OpensU enc P W N f.type k mk Q) (t : OpensFU enc P W N fs (off + k) n mk' Q') :
    OpensFU enc P W N (f :: fs) off (k + n) (fun y : α × β => mk y.1 ++ mk' y.2) (fun y => Q y.1 ∧ Q' y.2) :=
  ⟨fun y => ⟨by simp [(h.lay y.1).1, (t.lay y.2).1], fun c hc => (List.mem_append.1 hc).elim ((h.lay y.1).2 c) ((t.lay y.2).2 c)⟩, fun fuel cs xs hx hl hw hc => by
    cases xs with
    | nil => simp at hl
    | cons x xs =>
      have h0 := hx 0 f rfl
      rw [ho, h.size] at h0
      rw [List.map_cons, Rows.uptoBulkAll] at hw
      obtain ⟨y, q, r⟩ := h.go fuel _ x h0 (by omega)
      obtain ⟨z, q2, r2⟩ := t.go fuel cs xs (fun i g hg => hx (i + 1) g hg) (by simpa using hl) (by omega) (by omega)
      refine ⟨(y, z), ⟨q, q2⟩, ?_⟩
      have e : cs.drop off = (cs.drop off).take k ++ cs.drop (off + k) := by rw [← List.drop_drop, List.take_append_drop]
      rw [e]; exact r.append r2⟩
theorem OpensU.struct {t : TypeId} {fs : List Field} {k : Nat} {α : Type} {mk : α → List AV} {Q : α → Prop} (h : OpensFU enc P W N fs 0 k mk Q) (ht : P.underlying t = some (.struct fs.toArray)) (hs : P.cellsOf t = k) : OpensU enc P W N t k mk Q :=
  ⟨hs, h.lay, fun fuel cs x hx hw => by
    obtain ⟨xs, n, rfl, rfl, hl, hxl, hf⟩ := DataW.trod_struct ht hx
    rw [bulk_agg] at hw
    have := h.go n cs xs (fun i f hi => hf i f (by simpa using hi)) (by simpa using hxl) (by omega) (by rw [hl, hs]; omega)
    simpa using this⟩
theorem OpensU.argS {t : TypeId} {k : Nat} {α : Type} {mk : α → List AV} {Q : α → Prop} (h : OpensU enc P W N t k mk Q) {cs : Array Value} {d : DataW H} {ps : List MemPlace} (ht : DataW.Trod enc P W 0 (fun _ => true) true t (.agg cs) d ps) (hw : Rows.uptoBulk d ≤ N) : ∃ y, Q y ∧ Rel (Al.G0 W) W (.agg (mk y)) (.agg cs) := by
  obtain ⟨fuel, hf⟩ := ht
  obtain ⟨y, q, r⟩ := h.go _ _ _ hf hw
  have : cs = (cs.toList).toArray := by simp
  rw [this]
  exact ⟨y, q, .agg (h.lay y).2 (by simpa [Value.cells] using r)⟩
end
end Go.Proofs.YtgliemhhnkhboaaGreatDoor
end
section
set_option linter.unusedVariables false
set_option linter.unusedSimpArgs false
set_option maxRecDepth 100000
set_option maxHeartbeats 2000000
namespace Go.Proofs.YtgliemhhnkhboaaGreatDoor
open Go.Al Go.RowKit
theorem refWord_any (w0 : Base) (s : List UInt8) (hs : s.length ≤ 9223372036854775807) : CallP Tryz.prog w0 91 [.str s] (.bool (wordS s)) := by
  refine CallP.h Ty.tok Ty.mixed Tryz.func91 rfl Tryz.ntmps91 rfl (by simp) (by decide +kernel) fun σ => ?_
  (conv => whnf); refine Hid.seq ?_; refine Hid.reg ?_; (conv => whnf); refine Hid.seq ?_; refine Hid.seq ?_; refine Hid.reg ?_; (conv => whnf); refine Hid.block ?_; refine Hid.loop ?_
  skip
  refine SLoop.by Ty.mixed (fun i : Nat => s.length - i) (fun i => [(0, .str s), (3, .int .i64 i)]) (fun _ => []) (fun i τ => i ≤ s.length ∧ (∀ b ∈ s.take i, wordB b = true) ∧ τ = σ) 0 ⟨by repeat (first | exact trivial | refine ⟨by first | trivial | exact Weak.refl _ | exact Weak.tok _ _ _ | exact Weak.of_eq (congrArg (AV.int _) (by omega)) | exact Weak.of_eq (congrArg AV.bool (by fail)) | exact Weak.nils _ _ (.inr rfl), ?_⟩), .none _, Nat.zero_le _, by simp, rfl⟩ ?_
  rintro i τ ⟨hi, hw, rfl⟩
  by_cases hlt : i < s.length
  · have gc : s[((i : Int)).toNat]? = some s[i] := by simp [hlt]
    have hno : wordB s[i] = false → wordS s = false := word_no hlt
    have hon : wordB s[i] = true → ∀ b ∈ s.take (i + 1), wordB b = true := fun h => word_on hlt hw h
    generalize s[i] = q at *
    have hq := q.toNat_lt
    refine Xc_h ?_; (conv => whnf); refine Hid.seq ?_; refine Hid.seq ?_; refine Hid.reg ?_; (conv => whnf); refine Hid.cond rfl ?_
    skip
    refine SIf.y Ty.mixed (decide_eq_true (by omega)) ?_; refine Xc_h ?_; (conv => whnf); refine Hid.skip ?_; (conv => whnf); refine Hid.seq ?_; refine Hid.seq ?_; refine Hid.reg ?_; (conv => whnf)
    refine ⟨_, ⟨by first | omega | (simp only [List.length_cons, List.length_append, List.length_nil, List.length_map, length_aBytes, List.length_replicate, List.length_range]; omega) | fail, by exact gc⟩, ?_⟩
    (conv => whnf); refine SCond.mk (fun hc => ?_) (fun hc => ?_); (conv => whnf); rotate_left; (conv => whnf)
    rotate_right
    refine SCond.y (by assumption) ?_; (conv => whnf); refine SCond.y (by assumption) ?_; (conv => whnf)
    refine ⟨_, ⟨by first | omega | (simp only [List.length_cons, List.length_append, List.length_nil, List.length_map, length_aBytes, List.length_replicate, List.length_range]; omega) | fail, by exact gc⟩, ?_⟩
    (conv => whnf); refine SCond.y (by assumption) ?_; (conv => whnf); refine SPick.y (by assumption) ?_; (conv => whnf); refine SCond.mk (fun hc => ?_) (fun hc => ?_); (conv => whnf); rotate_left; (conv => whnf)
    rotate_right
    refine SCond.y (by assumption) ?_; (conv => whnf); refine SCond.y (by assumption) ?_; (conv => whnf); refine SCond.y (by assumption) ?_; (conv => whnf); refine SCond.y (by assumption) ?_; (conv => whnf); refine SCond.y (by assumption) ?_; (conv => whnf); refine SPick.y (by assumption) ?_; (conv => whnf); refine Hid.cond rfl ?_; refine SIf.n Ty.mixed (by exact rfl) ?_; refine Xc_h ?_
    (conv => whnf); refine Hid.skip ?_; (conv => whnf); refine Hid.reg ?_; (conv => whnf); refine ⟨_, IntWalk.i64_in _ (by omega), ?_⟩; (conv => whnf); rotate_left; refine SCond.n (by assumption) ?_; (conv => whnf); refine SCond.n (by assumption) ?_; (conv => whnf)
    refine ⟨_, ⟨by first | omega | (simp only [List.length_cons, List.length_append, List.length_nil, List.length_map, length_aBytes, List.length_replicate, List.length_range]; omega) | fail, by exact gc⟩, ?_⟩
    (conv => whnf); refine SCond.n (by assumption) ?_; (conv => whnf); refine SCond.n (by assumption) ?_; (conv => whnf); refine SCond.mk (fun hc => ?_) (fun hc => ?_); (conv => whnf); rotate_left; (conv => whnf)
    rotate_right
    refine SCond.y (by assumption) ?_; (conv => whnf); refine SCond.y (by assumption) ?_; (conv => whnf)
    refine ⟨_, ⟨by first | omega | (simp only [List.length_cons, List.length_append, List.length_nil, List.length_map, length_aBytes, List.length_replicate, List.length_range]; omega) | fail, by exact gc⟩, ?_⟩
    (conv => whnf); refine SCond.y (by assumption) ?_; (conv => whnf); refine SCond.n (by assumption) ?_; (conv => whnf); refine SPick.y (by assumption) ?_; (conv => whnf); refine SPick.n (by assumption) ?_; (conv => whnf); refine Hid.cond rfl ?_; refine SIf.x Ty.mixed (fun hc => ?_) (fun hc => ?_); refine Xc_h ?_; (conv => whnf); refine Hid.seq ?_; refine Hid.reg ?_; (conv => whnf)
    refine Hid.ret ?_; (conv => whnf); rotate_left; refine Xc_h ?_; (conv => whnf); refine Hid.skip ?_; (conv => whnf); refine Hid.reg ?_; (conv => whnf)
    rotate_right
    rotate_left; refine ⟨_, IntWalk.i64_in _ (by omega), ?_⟩; (conv => whnf); rotate_left; refine SCond.n (by assumption) ?_; (conv => whnf); refine SCond.n (by assumption) ?_; (conv => whnf); refine SCond.n (by assumption) ?_; (conv => whnf); refine SCond.n (by assumption) ?_; (conv => whnf); refine SPick.n (by assumption) ?_; (conv => whnf); refine SPick.n (by assumption) ?_; (conv => whnf)
    refine Hid.cond rfl ?_; refine SIf.y Ty.mixed (by exact rfl) ?_; refine Xc_h ?_; (conv => whnf); refine Hid.seq ?_; refine Hid.reg ?_; (conv => whnf); refine Hid.ret ?_; (conv => whnf); rotate_left; refine SCond.n (by assumption) ?_; (conv => whnf); refine SCond.n (by assumption) ?_; (conv => whnf); refine SCond.n (by assumption) ?_; (conv => whnf); refine SPick.n (by assumption) ?_
    (conv => whnf); refine SCond.n (by exact rfl) ?_; (conv => whnf); refine SCond.n (by exact rfl) ?_; (conv => whnf); refine SCond.n (by exact rfl) ?_; (conv => whnf)
    refine ⟨_, ⟨by first | omega | (simp only [List.length_cons, List.length_append, List.length_nil, List.length_map, length_aBytes, List.length_replicate, List.length_range]; omega) | fail, by exact gc⟩, ?_⟩
    (conv => whnf); refine SCond.n (by exact rfl) ?_; (conv => whnf); refine SCond.n (by exact rfl) ?_; (conv => whnf); refine SCond.mk (fun hc => ?_) (fun hc => ?_); (conv => whnf); rotate_left; (conv => whnf)
    rotate_right
    refine SCond.y (by assumption) ?_; (conv => whnf); refine SCond.y (by assumption) ?_; (conv => whnf)
    refine ⟨_, ⟨by first | omega | (simp only [List.length_cons, List.length_append, List.length_nil, List.length_map, length_aBytes, List.length_replicate, List.length_range]; omega) | fail, by exact gc⟩, ?_⟩
    (conv => whnf); refine SCond.y (by assumption) ?_; (conv => whnf); refine SCond.n (by exact rfl) ?_; (conv => whnf); refine SPick.y (by assumption) ?_; (conv => whnf); refine SPick.n (by exact rfl) ?_; (conv => whnf); refine Hid.cond rfl ?_; refine SIf.x Ty.mixed (fun hc => ?_) (fun hc => ?_); refine Xc_h ?_; (conv => whnf); refine Hid.seq ?_; refine Hid.reg ?_; (conv => whnf)
    refine Hid.ret ?_; (conv => whnf); rotate_left; refine Xc_h ?_; (conv => whnf); refine Hid.skip ?_; (conv => whnf); refine Hid.reg ?_; (conv => whnf)
    rotate_right
    rotate_left; refine ⟨_, IntWalk.i64_in _ (by omega), ?_⟩; (conv => whnf); rotate_left; refine SCond.n (by assumption) ?_; (conv => whnf); refine SCond.n (by assumption) ?_; (conv => whnf); refine SCond.n (by assumption) ?_; (conv => whnf); refine SCond.n (by exact rfl) ?_; (conv => whnf); refine SPick.n (by assumption) ?_; (conv => whnf); refine SPick.n (by exact rfl) ?_; (conv => whnf)
    refine Hid.cond rfl ?_; refine SIf.y Ty.mixed (by exact rfl) ?_; refine Xc_h ?_; (conv => whnf); refine Hid.seq ?_; refine Hid.reg ?_; (conv => whnf); refine Hid.ret ?_; (conv => whnf); rotate_left
    all_goals simp only [Bool.not_eq_true', Bool.not_eq_false', decide_eq_true_eq, decide_eq_false_iff_not] at *
    all_goals first
      | (refine .p (.refl _) ?_; refine congrArg AV.bool (hno ?_); simp only [wordB, Bool.or_eq_false_iff, Bool.and_eq_false_iff, decide_eq_false_iff_not]; omega)
      | exact ⟨i + 1, by omega, ⟨by repeat (first | exact trivial | refine ⟨by first | trivial | exact Weak.refl _ | exact Weak.tok _ _ _ | exact Weak.of_eq (congrArg (AV.int _) (by omega)) | exact Weak.of_eq (congrArg AV.bool (by fail)) | exact Weak.nils _ _ (.inr rfl), ?_⟩), .none _, by omega, hon (by simp only [wordB, Bool.or_eq_true, Bool.and_eq_true, decide_eq_true_eq]; omega), rfl⟩⟩
  · have hge : i = s.length := by omega
    refine Xc_h ?_; (conv => whnf); refine Hid.seq ?_; refine Hid.seq ?_; refine Hid.reg ?_; (conv => whnf); refine Hid.cond rfl ?_
    skip
    refine SIf.n Ty.mixed (decide_eq_false (by omega)) ?_; refine Xc_h ?_; (conv => whnf); refine Hid.exit ?_; (conv => whnf); refine Hid.seq ?_; refine Hid.reg ?_; (conv => whnf); refine Hid.ret ?_; (conv => whnf)
    skip
    have : s.all wordB = true := List.all_eq_true.2 fun b hb => hw b (by rwa [List.take_of_length_le (by omega)])
    refine .p (.refl _) (congrArg AV.bool ?_)
    cases s <;> simp_all [wordS]
end Go.Proofs.YtgliemhhnkhboaaGreatDoor
end
section
set_option linter.unusedVariables false
namespace Go.Proofs.YtgliemhhnkhboaaGreatDoor
open Go.Al
theorem pcs_lone {c : UInt8} : ∀ {l : List UInt8}, (∀ b ∈ l, b ≠ c) → pcs c l = [l]
  | [], _ => rfl
  | b :: l, h => by rw [pcs, if_neg (h b (by simp)), pcs_lone fun x hx => h x (by simp [hx])]
theorem pcs_cut {c : UInt8} : ∀ {k : Nat} {l : List UInt8}, (∀ b ∈ l.take k, b ≠ c) → l[k]? = some c → pcs c l = l.take k :: pcs c (l.drop (k + 1))
  | 0, [], _, h => by simp at h
  | 0, b :: l, _, h => by
    obtain rfl : b = c := by simpa using h
    simp [pcs]
  | k + 1, [], _, h => by simp at h
  | k + 1, b :: l, hn, h => by
    have ih := pcs_cut (k := k) (l := l) (fun x hx => hn x (by simp [hx])) (by simpa using h)
    rw [pcs, if_neg (hn b (by simp)), ih]
    simp
end Go.Proofs.YtgliemhhnkhboaaGreatDoor
end
section
set_option linter.unusedVariables false
set_option linter.unusedSimpArgs false
set_option maxRecDepth 100000
set_option maxHeartbeats 2000000
namespace Go.Proofs.YtgliemhhnkhboaaGreatDoor
open Go.Al Go.RowKit
theorem strs_snoc (l : List (List UInt8)) (x : List UInt8) : strs l ++ [.str x] = strs (l ++ [x]) := by simp [strs]
theorem strs_len (l : List (List UInt8)) : (strs l).length = l.length := by simp [strs]
theorem refSplit_any (w0 : Base) (s : List UInt8) (c : UInt8) (hs : s.length ≤ 1000000000) : CallP Tryz.prog w0 90 [.str s, .int .u8 c.toNat] (.slc 1 (strs (pcs c s)) .no) := fun σ => by
  refine CallW.h (B := []) Ty.tok Ty.mixed Tryz.func90 rfl Tryz.ntmps90 rfl (by simp) (by decide +kernel) (.nil σ) ?_; (conv => whnf); refine Hid.seq ?_; refine Hid.reg ?_; (conv => whnf); refine Hid.seq ?_; refine Hid.reg ?_; (conv => whnf); refine Hid.seq ?_; refine Hid.reg ?_; (conv => whnf); refine Hid.seq ?_; refine Hid.seq ?_; refine Hid.reg ?_
  (conv => whnf); refine Hid.block ?_; refine Hid.loop ?_
  skip
  refine SLoop.by Ty.mixed (fun ((i, done, from_, tk) : Nat × List (List UInt8) × Nat × Tok) => s.length + 1 - i) (fun (i, done, from_, tk) => [(0, .str s), (1, .int .u8 c.toNat), (5, .slc 1 (strs done) tk), (6, .int .i64 from_), (7, .int .i64 i)]) (fun _ => [])
    (fun (i, done, from_, tk) τ => i ≤ s.length + 1 ∧ (i ≤ s.length → from_ ≤ i ∧ done ++ pcs c (s.drop from_) = pcs c s ∧ (∀ b ∈ (s.drop from_).take (i - from_), b ≠ c)) ∧ (s.length < i → done = pcs c s) ∧ done.length ≤ i ∧ Moves σ .full τ tk) (0, [], 0, .full) ⟨by repeat (first | exact trivial | refine ⟨by first | trivial | exact Weak.refl _ | exact Weak.tok _ _ _ | exact Weak.of_eq (congrArg (AV.int _) (by omega)) | exact Weak.of_eq (congrArg AV.bool (by fail)) | exact Weak.nils _ _ (.inr rfl), ?_⟩), .none _, by omega, fun _ => ⟨by omega, rfl, by simp⟩, fun h => by omega, by simp, .full _⟩ ?_
  rintro ⟨i, done, from_, tk⟩ τ ⟨hi, hin, hout, hdl, hm⟩
  by_cases hle : i ≤ s.length
  · obtain ⟨hfi, hd, hne⟩ := hin hle
    clear hin hout
    have hslice : List.drop ((from_ : Int)).toNat (List.take ((i : Int)).toNat s) = (s.drop from_).take (i - from_) := by
      simp [List.drop_take]
    refine Xc_h ?_; (conv => whnf); refine Hid.seq ?_; refine Hid.seq ?_; refine Hid.reg ?_; (conv => whnf); refine Hid.cond rfl ?_
    skip
    refine SIf.y Ty.mixed (decide_eq_true (by omega)) ?_; refine Xc_h ?_; (conv => whnf); refine Hid.skip ?_; (conv => whnf); refine Hid.seq ?_; refine Hid.seq ?_; refine Hid.reg ?_; (conv => whnf)
    skip
    by_cases hend : i = s.length
    · have d1 : decide ((i : Int) = (s.length : Int)) = true := decide_eq_true (by omega)
      have hall : pcs c (s.drop from_) = [(s.drop from_).take (i - from_)] := by
        have e : (s.drop from_).take (i - from_) = s.drop from_ := List.take_of_length_le (by simp; omega)
        rw [e] at hne ⊢
        exact pcs_lone hne
      refine SCond.y (by assumption) ?_; (conv => whnf); refine SCond.y (by assumption) ?_; (conv => whnf); refine SCond.y (by assumption) ?_; (conv => whnf); refine SCond.y (by assumption) ?_; (conv => whnf); refine SCond.y (by assumption) ?_; (conv => whnf); refine SPick.y (by assumption) ?_; (conv => whnf); refine Hid.cond rfl ?_; refine SIf.y Ty.mixed (by exact rfl) ?_; refine Xc_h ?_
      (conv => whnf); refine Hid.seq ?_; refine Hid.reg ?_; (conv => whnf); refine And.intro (by omega) ?_; (conv => whnf)
      refine SApp.c rfl rfl (by assumption) (by simp only [List.length_cons, List.length_nil, strs_len]; omega) fun tk1 σ1 hm => ?_
      (conv => whnf); refine Hid.reg ?_; (conv => whnf); refine ⟨_, IntWalk.i64_in _ (by omega), ?_⟩; (conv => whnf); refine Hid.reg ?_; (conv => whnf); refine ⟨_, IntWalk.i64_in _ (by omega), ?_⟩; (conv => whnf)
      rw [hslice]
      refine ⟨(i + 1, done ++ [(s.drop from_).take (i - from_)], i + 1, tk1), by show s.length + 1 - (i + 1) < s.length + 1 - i; omega, ?_, .none _, by omega, fun h => by omega, fun _ => by rw [← hd, hall], by simp; omega, by assumption⟩
      rw [strs_snoc]
      show xWeak [(0, .str s), (1, .int .u8 c.toNat), (5, .slc 1 (strs (done ++ [(s.drop from_).take (i - from_)])) tk1), (6, .int .i64 (i + 1 : Nat)), (7, .int .i64 (i + 1 : Nat))] _
      repeat (first | exact trivial | refine ⟨by first | trivial | exact Weak.refl _ | exact Weak.tok _ _ _ | exact Weak.of_eq (congrArg (AV.int _) (by omega)) | exact Weak.of_eq (congrArg AV.bool (by fail)) | exact Weak.nils _ _ (.inr rfl), ?_⟩)
    · have hlt : i < s.length := by omega
      have d1 : decide ((i : Int) = (s.length : Int)) = false := decide_eq_false (by omega)
      have gc : s[((i : Int)).toNat]? = some s[i] := by simp [hlt]
      have hgd : (s.drop from_)[i - from_]? = some s[i] := by rw [List.getElem?_drop, show from_ + (i - from_) = i by omega]; simp [hlt]
      by_cases heq : s[i] = c
      · have d2 : decide ((s[i].toNat : Int) = (c.toNat : Int)) = true := decide_eq_true (by rw [heq])
        have hcut : pcs c (s.drop from_) = (s.drop from_).take (i - from_) :: pcs c (s.drop (i + 1)) := by
          rw [pcs_cut hne (by rw [hgd, heq]), List.drop_drop, show from_ + (i - from_ + 1) = i + 1 by omega]
        generalize s[i] = q at *
        refine SCond.n (by assumption) ?_; (conv => whnf); refine SCond.n (by assumption) ?_; (conv => whnf); refine SCond.n (by assumption) ?_; (conv => whnf)
        refine ⟨_, ⟨by first | omega | (simp only [List.length_cons, List.length_append, List.length_nil, List.length_map, length_aBytes, List.length_replicate, List.length_range]; omega) | fail, by exact gc⟩, ?_⟩
        (conv => whnf); refine SCond.n (by assumption) ?_; (conv => whnf); refine SCond.n (by assumption) ?_; (conv => whnf); refine SPick.n (by assumption) ?_; (conv => whnf); refine Hid.cond rfl ?_; refine SIf.y Ty.mixed (by assumption) ?_; refine Xc_h ?_; (conv => whnf); refine Hid.seq ?_; refine Hid.reg ?_; (conv => whnf); refine And.intro (by omega) ?_; (conv => whnf)
        refine SApp.c rfl rfl (by assumption) (by simp only [List.length_cons, List.length_nil, strs_len]; omega) fun tk1 σ1 hm => ?_
        (conv => whnf); refine Hid.reg ?_; (conv => whnf); refine ⟨_, IntWalk.i64_in _ (by omega), ?_⟩; (conv => whnf); refine Hid.reg ?_; (conv => whnf); refine ⟨_, IntWalk.i64_in _ (by omega), ?_⟩; (conv => whnf)
        rw [hslice]
        refine ⟨(i + 1, done ++ [(s.drop from_).take (i - from_)], i + 1, tk1), by show s.length + 1 - (i + 1) < s.length + 1 - i; omega, ?_, .none _, by omega, fun h => ⟨Nat.le_refl _, by rw [← hd, hcut, List.append_assoc]; rfl, by simp⟩, fun h => by omega, by simp; omega, by assumption⟩
        rw [strs_snoc]
        show xWeak [(0, .str s), (1, .int .u8 c.toNat), (5, .slc 1 (strs (done ++ [(s.drop from_).take (i - from_)])) tk1), (6, .int .i64 (i + 1 : Nat)), (7, .int .i64 (i + 1 : Nat))] _
        repeat (first | exact trivial | refine ⟨by first | trivial | exact Weak.refl _ | exact Weak.tok _ _ _ | exact Weak.of_eq (congrArg (AV.int _) (by omega)) | exact Weak.of_eq (congrArg AV.bool (by fail)) | exact Weak.nils _ _ (.inr rfl), ?_⟩)
      · have d2 : decide ((s[i].toNat : Int) = (c.toNat : Int)) = false := decide_eq_false fun e => heq (UInt8.toNat_inj.1 (by omega))
        have hne' : ∀ b ∈ (s.drop from_).take (i + 1 - from_), b ≠ c := by
          intro b hb
          rw [show i + 1 - from_ = i - from_ + 1 by omega, List.take_add_one, hgd] at hb
          rcases List.mem_append.1 hb with hb | hb
          · exact hne b hb
          · simp at hb; rw [hb]; exact heq
        generalize s[i] = q at *
        refine SCond.n (by assumption) ?_; (conv => whnf); refine SCond.n (by assumption) ?_; (conv => whnf); refine SCond.n (by assumption) ?_; (conv => whnf)
        refine ⟨_, ⟨by first | omega | (simp only [List.length_cons, List.length_append, List.length_nil, List.length_map, length_aBytes, List.length_replicate, List.length_range]; omega) | fail, by exact gc⟩, ?_⟩
        (conv => whnf); refine SCond.n (by assumption) ?_; (conv => whnf); refine SCond.n (by assumption) ?_; (conv => whnf); refine SPick.n (by assumption) ?_; (conv => whnf); refine Hid.cond rfl ?_; refine SIf.n Ty.mixed (by assumption) ?_; refine Xc_h ?_; (conv => whnf); refine Hid.skip ?_; (conv => whnf); refine Hid.reg ?_; (conv => whnf); refine ⟨_, IntWalk.i64_in _ (by omega), ?_⟩
        (conv => whnf)
        exact ⟨(i + 1, done, from_, tk), by show s.length + 1 - (i + 1) < s.length + 1 - i; omega, by repeat (first | exact trivial | refine ⟨by first | trivial | exact Weak.refl _ | exact Weak.tok _ _ _ | exact Weak.of_eq (congrArg (AV.int _) (by omega)) | exact Weak.of_eq (congrArg AV.bool (by fail)) | exact Weak.nils _ _ (.inr rfl), ?_⟩), .none _, by omega, fun h => ⟨by omega, hd, hne'⟩, fun h => by omega, by omega, hm⟩
  · have hdone := hout (by omega)
    refine Xc_h ?_; (conv => whnf); refine Hid.seq ?_; refine Hid.seq ?_; refine Hid.reg ?_; (conv => whnf); refine Hid.cond rfl ?_
    skip
    refine SIf.n Ty.mixed (decide_eq_false (by omega)) ?_; refine Xc_h ?_; (conv => whnf); refine Hid.exit ?_; (conv => whnf); refine Hid.seq ?_; refine Hid.reg ?_; (conv => whnf); refine Hid.ret ?_; (conv => whnf)
    skip
    rw [hdone]
    exact .v hm.le (.tok _ _ _)
end Go.Proofs.YtgliemhhnkhboaaGreatDoor
end
section
set_option linter.unusedVariables false
set_option linter.unusedSimpArgs false
namespace Go.Proofs.YtgliemhhnkhboaaGreatDoor
open Go.Al
theorem pcs_two (c : UInt8) (b : List UInt8) : ∀ a : List UInt8, pcs c (a ++ c :: b) = pcs c a ++ pcs c b
  | [] => by simp [pcs]
  | x :: a => by
    have ih := pcs_two c b a
    simp only [List.cons_append]
    rw [pcs, pcs]
    by_cases h : x = c
    · rw [if_pos h, if_pos h, ih]; rfl
    · rw [if_neg h, if_neg h, ih]
      cases e : pcs c a with
      | nil => exact absurd e (pcs_ne c a)
      | cons p ps => rfl
theorem pcs_snoc (c : UInt8) : ∀ s : List UInt8, ∃ ps w, pcs c s = ps ++ [w] ∧ ((ps = [] ∧ s = w) ∨ ∃ q, s = q ++ c :: w ∧ pcs c q = ps)
  | [] => ⟨[], [], rfl, .inl ⟨rfl, rfl⟩⟩
  | x :: s => by
    obtain ⟨ps, w, hp, h⟩ := pcs_snoc c s
    by_cases hx : x = c
    · refine ⟨[] :: ps, w, by rw [pcs, if_pos hx, hp]; rfl, .inr ?_⟩
      rcases h with ⟨rfl, rfl⟩ | ⟨q, rfl, hq⟩
      · exact ⟨[], by simp [hx], rfl⟩
      · exact ⟨x :: q, rfl, by rw [pcs, if_pos hx, hq]⟩
    · rcases h with ⟨rfl, rfl⟩ | ⟨q, rfl, hq⟩
      · exact ⟨[], x :: s, by rw [pcs, if_neg hx, hp]; rfl, .inl ⟨rfl, rfl⟩⟩
      · cases ps with
        | nil => exact absurd hq (pcs_ne c q)
        | cons p ps' => exact ⟨(x :: p) :: ps', w, by rw [pcs, if_neg hx, hp]; rfl, .inr ⟨x :: q, rfl, by rw [pcs, if_neg hx, hq]⟩⟩
def refPatL : List (List UInt8) → Bool
  | [] => true
  | w :: l => (plusW w || (decide (w = [35]) && decide (l = []))) && refPatL l
theorem refPatL_snoc (w : List UInt8) : ∀ ps, refPatL (ps ++ [w]) = (ps.all plusW && (plusW w || decide (w = [35])))
  | [] => by simp [refPatL]
  | p :: ps => by
    rw [List.cons_append, refPatL, refPatL_snoc w ps]
    simp [Bool.and_assoc]
theorem trim_suffix (q : List UInt8) : trimT (q ++ [47, 35]) = q := by simp [trimT, Lib.trimSuffix, Lib.hasSuffix]
theorem trim_none {s : List UInt8} (h : ∀ q, s ≠ q ++ [47, 35]) : trimT s = s := by
  unfold trimT Lib.trimSuffix
  split
  · rename_i hs
    simp only [Lib.hasSuffix, List.isSuffixOf_iff_suffix] at hs
    obtain ⟨q, hq⟩ := hs
    exact absurd hq.symm (h q)
  · rfl
theorem refPat_eq (s : List UInt8) : (refPatL (pcs 47 s) && decide (s.length ≤ 30)) = patT s := by
  obtain ⟨ps, w, hp, h⟩ := pcs_snoc 47 s
  rw [hp, refPatL_snoc, patT]
  by_cases hw : w = [35]
  · subst hw
    rcases h with ⟨rfl, rfl⟩ | ⟨q, rfl, hq⟩
    · simp
    · have hne : ¬ (q ++ [47, 35] = [35]) := by
        intro e
        have := congrArg List.length e
        simp at this
      rw [show q ++ 47 :: [35] = q ++ [47, 35] from rfl, trim_suffix, decide_eq_false hne, hq]
      simp
  · have ht : trimT s = s := trim_none fun q e => by
      rw [e, show q ++ [47, 35] = q ++ 47 :: [35] from rfl, pcs_two, show pcs 47 [35] = [[35]] from rfl] at hp
      have := congrArg List.getLast? hp
      simp at this
      exact hw this.symm
    have hs : ¬ s = [35] := by
      rintro rfl
      rw [show pcs 47 [35] = [] ++ [[35]] from rfl] at hp
      have := congrArg List.getLast? hp
      simp at this
      exact hw this.symm
    rw [ht, hp, decide_eq_false hw, decide_eq_false hs]
    simp
def refPairB (last p : List UInt8) : Bool :=
  match pcs 61 p with
  | [a, b] => (wordS a && wordS b) && !(ltS a last || decide (a = last))
  | _ => false
theorem word_mem {l : List UInt8} (h : wordS l = true) : ∀ b ∈ l, wordB b = true := by
  unfold wordS at h
  simp at h
  exact h.1
theorem refPair_eq (last p : List UInt8) : refPairB last p = pairB last p := by
  unfold refPairB pairB
  rcases ix_cases 61 p with ⟨hi, hp⟩ | ⟨i, hi, hil, hp⟩
  · have : cutIs 61 p = false := by rw [cutIs, hi]; rfl
    rw [hp, this]; rfl
  · have h1 : cutIs 61 p = true := by rw [cutIs, hi]; exact decide_eq_true (by omega)
    have h2 : cutA 61 p = p.take i := by rw [cutA, hi, if_pos (by omega)]; rfl
    have h3 : cutB 61 p = p.drop (i + 1) := by rw [cutB, hi, if_pos (by omega)]; rfl
    rw [h1, h2, h3, hp]
    rcases ix_cases 61 (p.drop (i + 1)) with ⟨_, hq⟩ | ⟨j, _, hjl, hq⟩
    · rw [hq]
      simp
    · have hw : wordS (p.drop (i + 1)) = false := by
        cases hw : wordS (p.drop (i + 1)) with
        | false => rfl
        | true =>
          have hm : (61 : UInt8) ∈ p.drop (i + 1) := by
            rename_i hj
            have hne : pcs 61 (p.drop (i + 1)) ≠ [p.drop (i + 1)] := by
              rw [hq]
              intro e
              have := congrArg List.length e
              simp at this
              exact pcs_ne _ _ this
            exact Decidable.byContradiction fun hno => hne (pcs_lone fun b hb e => hno (e ▸ hb))
          have := word_mem hw _ hm
          exact absurd this (by decide)
      rw [hw, hq]
      cases e : pcs 61 ((p.drop (i + 1)).drop (j + 1)) with
      | nil => exact absurd e (pcs_ne _ _)
      | cons => simp
theorem idx_mem (c : UInt8) (s : List UInt8) : decide (Lib.indexByte s c < 0) = !decide (c ∈ s) := by
  rcases ix_cases c s with ⟨hi, hp⟩ | ⟨i, hi, hil, hp⟩
  · have : c ∉ s := fun h => by
      obtain ⟨k, hk, e⟩ := List.mem_iff_getElem.1 h
      exact Lib.indexByte_none hi k (by rw [List.getElem?_eq_getElem hk, e])
    rw [hi]; simp [this]
  · have : c ∈ s := List.mem_of_getElem? (Lib.indexByte_some hi).1
    rw [hi]; simp [this]
end Go.Proofs.YtgliemhhnkhboaaGreatDoor
end
