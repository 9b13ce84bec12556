/- The law StateBack returns true for every input, and its arguments read as before: the tied card. No conditions. This is part 5 of 7 of its proof; the parts are read in order. No conditions. -/
import Derived.Test.YtgliemhhnkhboaaGreatDoorCStateBackP4
section
set_option linter.unusedVariables false
set_option linter.unusedSimpArgs false
set_option maxRecDepth 100000
set_option maxHeartbeats 1000000
namespace Go.Proofs.YtgliemhhnkhboaaGreatDoor
open Go.Al Go.RowKit
def cutIs (c : UInt8) (s : List UInt8) : Bool := decide (0 ≤ Lib.indexByte s c)
def cutA (c : UInt8) (s : List UInt8) : List UInt8 := if 0 ≤ Lib.indexByte s c then s.take (Lib.indexByte s c).toNat else s
def cutB (c : UInt8) (s : List UInt8) : List UInt8 := if 0 ≤ Lib.indexByte s c then s.drop ((Lib.indexByte s c).toNat + 1) else []
theorem cut_any (w0 : Base) (s : List UInt8) (c : UInt8) (hs : s.length ≤ 1000000000) : CallP Tryz.prog w0 98 [.str s, .str [c]] (.tup [.str (cutA c s), .str (cutB c s), .bool (cutIs c s)]) := by
  have inner : CallP Tryz.prog w0 113 [.str s, .str [c]] (.tup [.str (cutA c s), .str (cutB c s), .bool (cutIs c s)]) := by
    refine CallP.h Ty.tok Ty.mixed Tryz.func113 rfl Tryz.ntmps113 rfl (by simp) (by decide +kernel) fun σ => ?_
    have hi := idx_any w0 s c
    rcases ix_cases c s with ⟨hix, _⟩ | ⟨i, hix, hil, _⟩
    · have e1 : cutA c s = s := by rw [cutA, hix]; rfl
      have e2 : cutB c s = [] := by rw [cutB, hix]; rfl
      have e3 : cutIs c s = false := by rw [cutIs, hix]; rfl
      rw [e1, e2, e3]
      rw [hix] at hi
      (conv => whnf); refine Hid.seq ?_; refine Hid.reg ?_; (conv => whnf); refine Hid.seq ?_; refine Hid.seq ?_; refine Hid.reg ?_; (conv => whnf); refine SCall.p (by exact hi) ?_; (conv => whnf); refine Hid.seq ?_; refine Hid.reg ?_; (conv => whnf); refine Hid.cond rfl ?_; refine SIf.n Ty.mixed (by exact rfl) ?_; refine Xc_h ?_; (conv => whnf); refine Hid.skip ?_; (conv => whnf)
      refine Hid.seq ?_; refine Hid.reg ?_; (conv => whnf); refine Hid.ret ?_; (conv => whnf); exact .p (.refl _) rfl
    · have e1 : cutA c s = s.take i := by rw [cutA, hix, if_pos (by omega)]; rfl
      have e2 : cutB c s = s.drop (i + 1) := by rw [cutB, hix, if_pos (by omega)]; rfl
      have e3 : cutIs c s = true := by rw [cutIs, hix]; exact decide_eq_true (by omega)
      rw [e1, e2, e3]
      rw [hix] at hi
      clear e1 e2 e3; (conv => whnf); refine Hid.seq ?_; refine Hid.reg ?_; (conv => whnf); refine Hid.seq ?_; refine Hid.seq ?_; refine Hid.reg ?_; (conv => whnf); refine SCall.p (by exact hi) ?_; (conv => whnf); refine Hid.seq ?_; refine Hid.reg ?_; (conv => whnf); refine Hid.cond rfl ?_; refine SIf.y Ty.mixed (by exact rfl) ?_; refine Xc_h ?_; (conv => whnf); refine Hid.seq ?_
      refine Hid.regD ?_; refine SReg.t 0 [] (by decide +kernel) ?_; (conv => whnf); refine And.intro (by omega) ?_; (conv => whnf); refine ⟨_, IntWalk.i64_in _ (by simp only [List.length_cons, List.length_nil]; omega), ?_⟩; (conv => whnf); refine And.intro (by simp only [List.length_cons, List.length_nil]; omega) ?_; (conv => whnf); refine Hid.ret ?_; (conv => whnf); exact .p (.refl _) (by simp)
  refine CallP.h Ty.tok Ty.mixed Tryz.func98 rfl Tryz.ntmps98 rfl (by simp) (by decide +kernel) fun σ => ?_
  (conv => whnf); refine Hid.seq ?_; refine Hid.reg ?_; (conv => whnf); refine Hid.seq ?_; refine Hid.reg ?_; (conv => whnf); refine SCall.p (by exact inner) ?_; (conv => whnf); refine Hid.ret ?_; (conv => whnf); exact .p (.refl _) rfl
def pairB (last p : List UInt8) : Bool := cutIs 61 p && wordS (cutA 61 p) && wordS (cutB 61 p) && !(ltS (cutA 61 p) last || decide (cutA 61 p = last))
def pairsB : List UInt8 → List (List UInt8) → Bool
  | _, [] => true
  | last, p :: l => pairB last p && pairsB (cutA 61 p) l
def attrsT (s : List UInt8) : Bool := decide (s = []) || pairsB [] (pcs 44 s) && decide (s.length ≤ 30)
theorem pcs_mem_len (c : UInt8) : ∀ (l : List UInt8), ∀ p ∈ pcs c l, p.length ≤ l.length
  | [], p, h => by simp [pcs] at h; subst h; simp
  | b :: l, p, h => by
    have ih := pcs_mem_len c l
    rw [pcs] at h
    split at h
    · rcases List.mem_cons.1 h with rfl | h
      · simp
      · have := ih p h; simp; omega
    · split at h
      · rename_i q qs e
        rcases List.mem_cons.1 h with rfl | h
        · have := ih q (by rw [e]; simp); simp; omega
        · have := ih p (by rw [e]; simp [h]); simp; omega
      · simp at h; subst h; simp
theorem pairs_go (w0 : Base) (s : List UInt8) (h0 : s ≠ []) (ps : List (List UInt8)) (hml : ∀ p ∈ ps, p.length ≤ 1000000000) (hpl : ps.length ≤ 1000000001) (hsp : CallP Tryz.prog w0 97 [.str s, .str [44]] (.slc 1 (strs ps) .no)) (r : AV) (h1 : pairsB [] ps = true → r = .slc 1 (strs ps) .no) (h2 : pairsB [] ps = false → r = .nils) : CallP Tryz.prog w0 74 [.str s] (.tup [r, .bool (pairsB [] ps && decide (s.length ≤ 30))]) := by
  refine CallP.h Ty.tok Ty.mixed Tryz.func74 rfl Tryz.ntmps74 rfl (by simp) (by decide +kernel) fun σ => ?_
  (conv => whnf); refine Hid.seq ?_; refine Hid.reg ?_; (conv => whnf); refine Hid.seq ?_; refine Hid.seq ?_; refine Hid.reg ?_; (conv => whnf); refine Hid.cond rfl ?_
  skip
  refine SIf.n Ty.mixed (decide_eq_false h0) ?_; refine Xc_h ?_; (conv => whnf); refine Hid.skip ?_; (conv => whnf); refine Hid.seq ?_; refine Hid.reg ?_; (conv => whnf); refine SCall.p (by exact hsp) ?_; (conv => whnf); refine Hid.seq ?_; refine Hid.reg ?_; (conv => whnf); refine Hid.seq ?_; refine Hid.seq ?_; refine Hid.reg ?_; (conv => whnf); refine Hid.block ?_; refine Hid.loop ?_
  refine SLoop.by Ty.mixed (fun ((i, last) : Nat × List UInt8) => ps.length - i) (fun (i, last) => [(0, .str s), (4, .slc 1 (strs ps) .no), (5, .str last), (15, .slc 1 (strs ps) .no), (16, .int .i64 ps.length), (17, .int .i64 i)]) (fun _ => []) (fun (i, last) τ => i ≤ ps.length ∧ pairsB last (ps.drop i) = pairsB [] ps ∧ τ = σ) (0, []) ⟨?_, .none _, Nat.zero_le _, rfl, rfl⟩ ?_
  · show xWeak [(0, .str s), (4, .slc 1 (strs ps) .no), (5, .str []), (15, .slc 1 (strs ps) .no), (16, .int .i64 ps.length), (17, .int .i64 (0 : Nat))] _
    rw [show ps.length = (strs ps).length by simp [strs]]
    repeat (first | exact trivial | refine ⟨by first | trivial | exact Weak.refl _ | exact Weak.tok _ _ _ | exact Weak.of_eq (congrArg (AV.int _) (by omega)) | exact Weak.of_eq (congrArg AV.bool (by fail)) | exact Weak.nils _ _ (.inr rfl), ?_⟩)
  rintro ⟨i, last⟩ τ ⟨hi, hd, rfl⟩; refine Xc_h ?_; (conv => whnf); refine Hid.seq ?_; refine Hid.reg ?_; (conv => whnf); refine Hid.seq ?_; refine Hid.cond rfl ?_
  skip
  refine SIf.x Ty.mixed (fun hc => ?_) (fun hc => ?_); refine Xc_h ?_; (conv => whnf); refine Hid.skip ?_; (conv => whnf); refine Hid.seq ?_; refine Hid.seq ?_; refine Hid.reg ?_; (conv => whnf); rotate_left; refine Xc_h ?_; (conv => whnf); refine Hid.exit ?_; (conv => whnf); refine Hid.seq ?_; refine Hid.reg ?_; (conv => whnf); refine Hid.ret ?_; (conv => whnf)
  rotate_right
  · have hlt : i < ps.length := by simp at hc; omega
    have ga : (strs ps)[i]? = some (.str ps[i]) := by simp [strs, hlt]
    have hpm := hml _ (List.getElem_mem hlt)
    rw [List.drop_eq_getElem_cons hlt, pairsB] at hd
    generalize ps[i] = p at *
    refine ⟨_, ⟨by first | omega | (simp only [List.length_cons, List.length_nil]; omega), by exact ga⟩, ?_⟩
    (conv => whnf); refine Hid.seq ?_; refine Hid.reg ?_; (conv => whnf); refine SCall.p (by exact cut_any w0 p 61 hpm) ?_; (conv => whnf); refine Hid.seq ?_; refine Hid.seq ?_; refine Hid.reg ?_; (conv => whnf); refine SCond.mk (fun hc => ?_) (fun hc => ?_); (conv => whnf); rotate_left; (conv => whnf)
    rotate_right
    refine SCond.y (by assumption) ?_; (conv => whnf); refine SCond.y (by assumption) ?_; (conv => whnf); refine SPick.y (by assumption) ?_; (conv => whnf); refine SCond.y (by exact rfl) ?_; (conv => whnf); refine SCond.y (by exact rfl) ?_; (conv => whnf); refine SCond.y (by exact rfl) ?_; (conv => whnf); refine SPick.y (by exact rfl) ?_; (conv => whnf); refine SCond.y (by exact rfl) ?_
    (conv => whnf); refine SCond.y (by exact rfl) ?_; (conv => whnf); refine SCond.y (by exact rfl) ?_; (conv => whnf); refine SPick.y (by exact rfl) ?_; (conv => whnf); refine Hid.cond rfl ?_; refine SIf.y Ty.mixed (by exact rfl) ?_; refine Xc_h ?_; (conv => whnf); refine Hid.seq ?_; refine Hid.reg ?_; (conv => whnf); refine Hid.ret ?_; (conv => whnf); rotate_left
    refine SCond.n (by assumption) ?_; (conv => whnf); refine SCall.p (by exact word_any w0 _) ?_; (conv => whnf); refine SCond.n (by assumption) ?_; (conv => whnf); refine SPick.n (by assumption) ?_; (conv => whnf); refine SCond.mk (fun hc => ?_) (fun hc => ?_); (conv => whnf); rotate_left; (conv => whnf)
    rotate_right
    refine SCond.y (by assumption) ?_; (conv => whnf); refine SCond.y (by assumption) ?_; (conv => whnf); refine SPick.y (by assumption) ?_; (conv => whnf); refine SCond.y (by exact rfl) ?_; (conv => whnf); refine SCond.y (by exact rfl) ?_; (conv => whnf); refine SCond.y (by exact rfl) ?_; (conv => whnf); refine SPick.y (by exact rfl) ?_; (conv => whnf); refine Hid.cond rfl ?_
    refine SIf.y Ty.mixed (by exact rfl) ?_; refine Xc_h ?_; (conv => whnf); refine Hid.seq ?_; refine Hid.reg ?_; (conv => whnf); refine Hid.ret ?_; (conv => whnf); rotate_left; refine SCond.n (by assumption) ?_; (conv => whnf); refine SCall.p (by exact word_any w0 _) ?_; (conv => whnf); refine SCond.n (by assumption) ?_; (conv => whnf); refine SPick.n (by assumption) ?_; (conv => whnf)
    refine SCond.mk (fun hc => ?_) (fun hc => ?_); (conv => whnf); rotate_left; (conv => whnf)
    rotate_right
    refine SCond.y (by assumption) ?_; (conv => whnf); refine SCond.y (by assumption) ?_; (conv => whnf); refine SPick.y (by assumption) ?_; (conv => whnf); refine Hid.cond rfl ?_; refine SIf.y Ty.mixed (by exact rfl) ?_; refine Xc_h ?_; (conv => whnf); refine Hid.seq ?_; refine Hid.reg ?_; (conv => whnf); refine Hid.ret ?_; (conv => whnf); rotate_left; refine SCond.n (by assumption) ?_
    (conv => whnf); refine SCond.n (by assumption) ?_; (conv => whnf); refine SPick.n (by assumption) ?_; (conv => whnf); refine Hid.cond rfl ?_; refine SIf.x Ty.mixed (fun hc => ?_) (fun hc => ?_); refine Xc_h ?_; (conv => whnf); refine Hid.seq ?_; refine Hid.reg ?_; (conv => whnf); refine Hid.ret ?_; (conv => whnf); rotate_left; refine Xc_h ?_; (conv => whnf); refine Hid.skip ?_; (conv => whnf)
    refine Hid.reg ?_; (conv => whnf); refine Hid.reg ?_; (conv => whnf)
    rotate_right
    rotate_left; refine ⟨_, IntWalk.i64_in _ (by omega), ?_⟩; (conv => whnf); rotate_left
    all_goals first
      | (have hb : pairsB [] ps = false := by
           rw [← hd]
           clear hd hsp h1 h2 ga hml hpl hpm
           simp only [pairB]
           generalize cutIs 61 p = q1 at *
           generalize wordS (cutA 61 p) = q2 at *
           generalize wordS (cutB 61 p) = q3 at *
           generalize (ltS (cutA 61 p) last || decide (cutA 61 p = last)) = q4 at *
           cases q1 <;> cases q2 <;> cases q3 <;> cases q4 <;> simp_all
         exact .p (.refl _) (by rw [h2 hb, hb, Bool.false_and]))
      | (have hp : pairB last p = true := by
           clear hd hsp h1 h2 ga hml hpl hpm
           simp only [pairB]
           generalize cutIs 61 p = q1 at *
           generalize wordS (cutA 61 p) = q2 at *
           generalize wordS (cutB 61 p) = q3 at *
           generalize (ltS (cutA 61 p) last || decide (cutA 61 p = last)) = q4 at *
           cases q1 <;> cases q2 <;> cases q3 <;> cases q4 <;> simp_all
         rw [hp, Bool.true_and] at hd
         exact ⟨(i + 1, cutA 61 p), by show ps.length - (i + 1) < ps.length - i; omega, by repeat (first | exact trivial | refine ⟨by first | trivial | exact Weak.refl _ | exact Weak.tok _ _ _ | exact Weak.of_eq (congrArg (AV.int _) (by omega)) | exact Weak.of_eq (congrArg AV.bool (by fail)) | exact Weak.nils _ _ (.inr rfl), ?_⟩), .none _, hlt, hd, rfl⟩)
  · have hge : i = ps.length := by simp at hc; omega
    subst hge
    rw [List.drop_length] at hd
    have hb : pairsB [] ps = true := hd.symm
    skip
    exact .p (.refl _) (by rw [h1 hb, hb, Bool.true_and, show decide (s.length ≤ 30) = decide ((s.length : Int) ≤ 30) from decide_eq_decide.2 (by omega)])
theorem pairs_any (w0 : Base) (s : List UInt8) (hs : s.length ≤ 1000000000) : ∃ r, (r = .nils ∨ r = .slc 1 (strs (pcs 44 s)) .no) ∧ CallP Tryz.prog w0 74 [.str s] (.tup [r, .bool (attrsT s)]) := by
  by_cases h0 : s = []
  · subst h0
    refine ⟨.nils, .inl rfl, ?_⟩
    refine CallP.h Ty.tok Ty.mixed Tryz.func74 rfl Tryz.ntmps74 rfl (by simp) (by decide +kernel) fun σ => ?_
    (conv => whnf); refine Hid.seq ?_; refine Hid.reg ?_; (conv => whnf); refine Hid.seq ?_; refine Hid.seq ?_; refine Hid.reg ?_; (conv => whnf); refine Hid.cond rfl ?_; refine SIf.y Ty.mixed (by exact rfl) ?_; refine Xc_h ?_; (conv => whnf); refine Hid.seq ?_; refine Hid.reg ?_; (conv => whnf); refine Hid.ret ?_; (conv => whnf); exact .p (.refl _) rfl
  have hat : attrsT s = (pairsB [] (pcs 44 s) && decide (s.length ≤ 30)) := by rw [attrsT, decide_eq_false h0, Bool.false_or]
  rw [hat]
  have go := pairs_go w0 s h0 (pcs 44 s) (fun p hp => Nat.le_trans (pcs_mem_len 44 s p hp) hs) (Nat.le_trans (pcs_len 44 s) (by omega)) (split_any w0 s 44 (by omega))
  cases hb : pairsB [] (pcs 44 s) with
  | true => exact ⟨_, .inr rfl, hb ▸ go _ (fun _ => rfl) (fun h => by rw [hb] at h; cases h)⟩
  | false => exact ⟨_, .inl rfl, hb ▸ go _ (fun h => by rw [hb] at h; cases h) (fun _ => rfl)⟩
theorem attrs_any (w0 : Base) (s : List UInt8) (hs : s.length ≤ 1000000000) : CallP Tryz.prog w0 55 [.str s] (.bool (attrsT s)) := by
  obtain ⟨r, hr, h⟩ := pairs_any w0 s hs
  refine CallP.h Ty.tok Ty.mixed Tryz.func55 rfl Tryz.ntmps55 rfl (by simp) (by decide +kernel) fun σ => ?_
  rcases hr with rfl | rfl
  · (conv => whnf)
    refine Hid.seq ?_; refine Hid.reg ?_; (conv => whnf); refine Hid.seq ?_; refine Hid.reg ?_; (conv => whnf); refine SCall.p (by exact h) ?_; (conv => whnf); refine Hid.seq ?_; refine Hid.reg ?_; (conv => whnf); refine Hid.ret ?_; (conv => whnf); exact .p (.refl _) rfl
  · (conv => whnf)
    refine Hid.seq ?_; refine Hid.reg ?_; (conv => whnf); refine Hid.seq ?_; refine Hid.reg ?_; (conv => whnf); refine SCall.p (by exact h) ?_; (conv => whnf); refine Hid.seq ?_; refine Hid.reg ?_; (conv => whnf); refine Hid.ret ?_; (conv => whnf); exact .p (.refl _) rfl
def nameT (s : List UInt8) : Bool := decide (s.length ≤ 20) && (rightT s && decide (Lib.indexByte s 47 < 0))
theorem contains_any (w0 : Base) (s : List UInt8) (c : UInt8) : CallP Tryz.prog w0 70 [.str s, .str [c]] (.bool (decide (0 ≤ Lib.indexByte s c))) := by
  refine CallP.h Ty.tok Ty.mixed Tryz.func70 rfl Tryz.ntmps70 rfl (by simp) (by decide +kernel) fun σ => ?_
  (conv => whnf); refine Hid.seq ?_; refine Hid.reg ?_; (conv => whnf); refine Hid.seq ?_; refine Hid.reg ?_; (conv => whnf); refine SCall.p (by exact index_any w0 _ _) ?_; (conv => whnf); refine Hid.ret ?_; (conv => whnf); exact .p (.refl _) rfl
theorem name_any (w0 : Base) (s : List UInt8) (hs : s.length ≤ 1000000000) : CallP Tryz.prog w0 53 [.str s] (.bool (nameT s)) := by
  refine CallP.h Ty.tok Ty.mixed Tryz.func53 rfl Tryz.ntmps53 rfl (by simp) (by decide +kernel) fun σ => ?_
  (conv => whnf); refine Hid.seq ?_; refine Hid.reg ?_; (conv => whnf); refine Hid.seq ?_; refine Hid.reg ?_; (conv => whnf); refine SCond.mk (fun hc => ?_) (fun hc => ?_); (conv => whnf); rotate_left; (conv => whnf)
  rotate_right
  refine SCond.y (by assumption) ?_; (conv => whnf); refine SCall.p (by exact right_any w0 s (by omega)) ?_; (conv => whnf); refine SPick.y (by assumption) ?_; (conv => whnf); refine SCond.mk (fun hc => ?_) (fun hc => ?_); (conv => whnf); rotate_left; (conv => whnf)
  rotate_right
  refine SCond.y (by assumption) ?_; (conv => whnf); refine SCall.p (by exact contains_any w0 _ _) ?_; (conv => whnf); refine SCond.y (by assumption) ?_; (conv => whnf); refine SPick.y (by assumption) ?_; (conv => whnf); refine Hid.ret ?_; (conv => whnf); rotate_left; refine SCond.n (by assumption) ?_; (conv => whnf); refine SCond.n (by assumption) ?_; (conv => whnf)
  refine SPick.n (by assumption) ?_; (conv => whnf); refine Hid.ret ?_; (conv => whnf); rotate_left; refine SCond.n (by assumption) ?_; (conv => whnf); refine SPick.n (by assumption) ?_; (conv => whnf); refine SCond.n (by exact rfl) ?_; (conv => whnf); refine SCond.n (by exact rfl) ?_; (conv => whnf); refine SCond.n (by exact rfl) ?_; (conv => whnf); refine SPick.n (by exact rfl) ?_; (conv => whnf)
  refine Hid.ret ?_; (conv => whnf); rotate_left
  all_goals
    refine .p (.refl _) (congrArg AV.bool ?_)
    rw [nameT]
    rw [Bool.eq_iff_iff]
    simp_all
    try omega
end Go.Proofs.YtgliemhhnkhboaaGreatDoor
end
section
set_option linter.unusedVariables false
set_option linter.unusedSimpArgs false
set_option maxRecDepth 100000
set_option maxHeartbeats 2000000
namespace Go.Proofs.YtgliemhhnkhboaaGreatDoor
open Go.Al Go.RowKit
def btw (n a b : Int) : Bool := decide (a ≤ n) && decide (n ≤ b)
def msgT (m : Msg) (most lease clock : Int) : Bool :=
  (decide (m.body.length ≤ 60) && (attrsT m.attr && btw m.prio 0 9)) &&
  (if m.dead = true then decide (m.until_ = 0) && ((decide (m.why = [110, 97, 99, 107]) || decide (m.why = [116, 105, 109, 101])) && decide (m.tries = most))
   else if m.why ≠ [] then false else if m.until_ = 0 then btw m.tries 0 (most - 1)
   else btw m.tries 1 most && (decide (clock < m.until_) && decide (m.until_ ≤ clock + lease)))
theorem message_any (w0 : Base) (m : Msg) (x : Sub) (clock : Int) (hat : m.attr.length ≤ 1000000000) (hm : 1 ≤ x.most ∧ x.most ≤ 9) (hl : 1 ≤ x.lease ∧ x.lease ≤ 1000) (hck : -4611686018427387904 ≤ clock ∧ clock ≤ 4611686018427387904) : CallP Tryz.prog w0 37 [eMsg m, eSub x, .int .i64 clock] (.bool (msgT m x.most x.lease clock)) := by
  refine CallP.h Ty.tok Ty.mixed Tryz.func37 rfl Tryz.ntmps37 rfl (by simp) (by decide +kernel) fun σ => ?_
  (conv => whnf); refine Hid.seq ?_; refine Hid.reg ?_; (conv => whnf); refine SBox.f ?_; (conv => whnf); refine SBox.f ?_; (conv => whnf); refine Hid.seq ?_; refine Hid.seq ?_; refine Hid.reg ?_; (conv => whnf); refine SCond.mk (fun hc => ?_) (fun hc => ?_); (conv => whnf); rotate_left; (conv => whnf)
  rotate_right
  refine SCond.y (by assumption) ?_; (conv => whnf); refine SCond.y (by assumption) ?_; (conv => whnf); refine SCall.p (by exact attrs_any w0 _ hat) ?_; (conv => whnf); refine SPick.y (by assumption) ?_; (conv => whnf); refine SCond.mk (fun hc => ?_) (fun hc => ?_); (conv => whnf); rotate_left; (conv => whnf)
  rotate_right
  refine SCond.y (by assumption) ?_; (conv => whnf); refine SCond.y (by assumption) ?_; (conv => whnf); refine SCall.p (by exact between_any w0 _ _ _) ?_; (conv => whnf); refine SPick.y (by assumption) ?_; (conv => whnf); refine Hid.seq ?_; refine Hid.reg ?_; (conv => whnf); refine Hid.cond rfl ?_; refine SIf.x Ty.mixed (fun hc => ?_) (fun hc => ?_); refine Xc_h ?_; (conv => whnf)
  refine Hid.seq ?_; refine Hid.reg ?_; (conv => whnf); refine Hid.ret ?_; (conv => whnf); rotate_left; refine Xc_h ?_; (conv => whnf); refine Hid.seq ?_; refine Hid.reg ?_; (conv => whnf); refine Hid.cond rfl ?_
  rotate_right
  rotate_left; refine SIf.x Ty.mixed (fun hc => ?_) (fun hc => ?_); refine Xc_h ?_; (conv => whnf); refine Hid.seq ?_; refine Hid.reg ?_; (conv => whnf); rotate_left; refine Xc_h ?_; (conv => whnf); refine Hid.seq ?_; refine Hid.reg ?_; (conv => whnf); refine Hid.cond rfl ?_
  rotate_right
  refine SCond.mk (fun hc => ?_) (fun hc => ?_); (conv => whnf); rotate_left; (conv => whnf)
  rotate_right
  refine SCond.y (by assumption) ?_; (conv => whnf); refine SCond.y (by assumption) ?_; (conv => whnf); refine SCond.y (by assumption) ?_; (conv => whnf); refine SCond.mk (fun hc => ?_) (fun hc => ?_); (conv => whnf); rotate_left; (conv => whnf)
  rotate_right
  refine SCond.y (by assumption) ?_; (conv => whnf); refine SCond.y (by assumption) ?_; (conv => whnf); refine SCond.y (by assumption) ?_; (conv => whnf); refine SPick.y (by assumption) ?_; (conv => whnf); refine SPick.y (by assumption) ?_; (conv => whnf); refine SCond.y (by exact rfl) ?_; (conv => whnf); refine SCond.y (by exact rfl) ?_; (conv => whnf); refine SCond.y (by exact rfl) ?_
  (conv => whnf); refine SCond.y (by exact rfl) ?_; (conv => whnf); refine SCond.y (by exact rfl) ?_; (conv => whnf); refine SPick.y (by exact rfl) ?_; (conv => whnf); refine Hid.ret ?_; (conv => whnf); rotate_left; refine SCond.n (by assumption) ?_; (conv => whnf); refine SCond.n (by assumption) ?_; (conv => whnf); refine SCond.y (by assumption) ?_; (conv => whnf)
  refine SPick.n (by assumption) ?_; (conv => whnf); refine SPick.y (by assumption) ?_; (conv => whnf); refine SCond.mk (fun hc => ?_) (fun hc => ?_); (conv => whnf); rotate_left; (conv => whnf)
  rotate_right
  refine SCond.y (by assumption) ?_; (conv => whnf); refine SCond.y (by assumption) ?_; (conv => whnf); refine SCond.y (by assumption) ?_; (conv => whnf); refine SCond.y (by assumption) ?_; (conv => whnf); refine SPick.y (by assumption) ?_; (conv => whnf); refine Hid.ret ?_; (conv => whnf); rotate_left; refine SCond.n (by assumption) ?_; (conv => whnf); refine SCond.n (by assumption) ?_
  (conv => whnf); refine SCond.n (by assumption) ?_; (conv => whnf); refine SCond.n (by assumption) ?_; (conv => whnf); refine SPick.n (by assumption) ?_; (conv => whnf); refine Hid.ret ?_; (conv => whnf); rotate_left; refine SCond.n (by assumption) ?_; (conv => whnf); refine SCond.n (by assumption) ?_; (conv => whnf); refine SCond.n (by assumption) ?_; (conv => whnf)
  refine SCond.n (by assumption) ?_; (conv => whnf); refine SPick.n (by assumption) ?_; (conv => whnf); refine SCond.n (by exact rfl) ?_; (conv => whnf); refine SCond.n (by exact rfl) ?_; (conv => whnf); refine SCond.n (by exact rfl) ?_; (conv => whnf); refine SCond.n (by exact rfl) ?_; (conv => whnf); refine SCond.n (by exact rfl) ?_; (conv => whnf); refine SPick.n (by exact rfl) ?_
  (conv => whnf); refine Hid.ret ?_; (conv => whnf); rotate_left; refine SIf.x Ty.mixed (fun hc => ?_) (fun hc => ?_); refine Xc_h ?_; (conv => whnf); refine Hid.seq ?_; refine Hid.reg ?_; (conv => whnf); refine Hid.ret ?_; (conv => whnf); rotate_left; refine Xc_h ?_; (conv => whnf); refine Hid.seq ?_; refine Hid.reg ?_; (conv => whnf); refine Hid.cond rfl ?_
  rotate_right
  rotate_left; refine SIf.x Ty.mixed (fun hc => ?_) (fun hc => ?_); refine Xc_h ?_; (conv => whnf); refine Hid.seq ?_; refine Hid.reg ?_; (conv => whnf); rotate_left; refine Xc_h ?_; (conv => whnf); refine Hid.skip ?_; (conv => whnf); refine Hid.seq ?_; refine Hid.reg ?_; (conv => whnf)
  rotate_right
  refine ⟨_, IntWalk.i64_in _ (by omega), ?_⟩; (conv => whnf); refine SCall.p (by exact between_any w0 _ _ _) ?_; (conv => whnf); refine Hid.ret ?_; (conv => whnf); rotate_left; refine SCall.p (by exact between_any w0 _ _ _) ?_; (conv => whnf); refine SCond.mk (fun hc => ?_) (fun hc => ?_); (conv => whnf); rotate_left; (conv => whnf)
  rotate_right
  refine SCond.y (by assumption) ?_; (conv => whnf); refine SCond.y (by assumption) ?_; (conv => whnf); refine SCond.y (by assumption) ?_; (conv => whnf); refine SPick.y (by assumption) ?_; (conv => whnf); refine SCond.mk (fun hc => ?_) (fun hc => ?_); (conv => whnf); rotate_left; (conv => whnf)
  rotate_right
  refine SCond.y (by assumption) ?_; (conv => whnf); refine SCond.y (by assumption) ?_; (conv => whnf); refine SCond.y (by assumption) ?_; (conv => whnf); refine SCond.y (by assumption) ?_; (conv => whnf); refine SCond.y (by assumption) ?_; (conv => whnf); refine ⟨_, IntWalk.i64_in _ (by omega), ?_⟩; (conv => whnf); refine SCond.y (by assumption) ?_; (conv => whnf)
  refine SPick.y (by assumption) ?_; (conv => whnf); refine Hid.ret ?_; (conv => whnf); rotate_left; refine SCond.n (by assumption) ?_; (conv => whnf); refine SCond.n (by assumption) ?_; (conv => whnf); refine SCond.n (by assumption) ?_; (conv => whnf); refine SCond.n (by assumption) ?_; (conv => whnf); refine SCond.n (by assumption) ?_; (conv => whnf); refine SCond.n (by assumption) ?_
  (conv => whnf); refine SPick.n (by assumption) ?_; (conv => whnf); refine Hid.ret ?_; (conv => whnf); rotate_left; refine SCond.n (by assumption) ?_; (conv => whnf); refine SCond.n (by assumption) ?_; (conv => whnf); refine SCond.n (by assumption) ?_; (conv => whnf); refine SPick.n (by assumption) ?_; (conv => whnf); refine SCond.n (by exact rfl) ?_; (conv => whnf)
  refine SCond.n (by exact rfl) ?_; (conv => whnf); refine SCond.n (by exact rfl) ?_; (conv => whnf); refine SCond.n (by exact rfl) ?_; (conv => whnf); refine SCond.n (by exact rfl) ?_; (conv => whnf); refine SCond.n (by exact rfl) ?_; (conv => whnf); refine SCond.n (by exact rfl) ?_; (conv => whnf); refine SPick.n (by exact rfl) ?_; (conv => whnf); refine Hid.ret ?_; (conv => whnf); rotate_left
  refine SCond.n (by assumption) ?_; (conv => whnf); refine SCond.n (by assumption) ?_; (conv => whnf); refine SPick.n (by assumption) ?_; (conv => whnf); refine Hid.seq ?_; refine Hid.reg ?_; (conv => whnf); refine Hid.cond rfl ?_; refine SIf.y Ty.mixed (by exact rfl) ?_; refine Xc_h ?_; (conv => whnf); refine Hid.seq ?_; refine Hid.reg ?_; (conv => whnf); refine Hid.ret ?_; (conv => whnf)
  rotate_left; refine SCond.n (by assumption) ?_; (conv => whnf); refine SCond.n (by assumption) ?_; (conv => whnf); refine SPick.n (by assumption) ?_; (conv => whnf); refine SCond.n (by exact rfl) ?_; (conv => whnf); refine SCond.n (by exact rfl) ?_; (conv => whnf); refine SCond.n (by exact rfl) ?_; (conv => whnf); refine SPick.n (by exact rfl) ?_; (conv => whnf); refine Hid.seq ?_
  refine Hid.reg ?_; (conv => whnf); refine Hid.cond rfl ?_; refine SIf.y Ty.mixed (by exact rfl) ?_; refine Xc_h ?_; (conv => whnf); refine Hid.seq ?_; refine Hid.reg ?_; (conv => whnf); refine Hid.ret ?_; (conv => whnf); rotate_left
  all_goals
    refine .p (.refl _) (congrArg AV.bool ?_); clear hat hm hl hck
    rw [msgT, Bool.eq_iff_iff]
    simp only [btw]
    first
      | (simp_all; done)
      | (simp_all; omega)
def fieldsT (x : Sub) (next : Int) : Bool :=
  ((nameT x.name && (patT x.topic && (attrsT x.want && decide (x.note.length ≤ 30)))) && ((btw x.id 1 1073741824 && (btw x.lease 1 1000 && (btw x.most 1 9 && (decide (0 ≤ x.floor) && decide (x.floor < next))))) && (decide (x.acks.length ≤ 20) && decide (x.queue.length ≤ 30))))
structure Small (x : Sub) : Prop where
  name : x.name.length ≤ 1000000000
  topic : x.topic.length ≤ 1000000000
  want : x.want.length ≤ 1000000000
  attr : ∀ m ∈ x.queue, m.attr.length ≤ 1000000000
  nacks : x.acks.length ≤ 1000000000
  nqueue : x.queue.length ≤ 1000000000
theorem fields_any (w0 : Base) (x : Sub) (next : Int) (hx : Small x) : CallP Tryz.prog w0 34 [eSub x, .int .i64 next] (.bool (fieldsT x next)) := by
  have h1 := hx.name
  have h2 := hx.topic
  have h3 := hx.want
  refine CallP.h Ty.tok Ty.mixed Tryz.func34 rfl Tryz.ntmps34 rfl (by simp) (by decide +kernel) fun σ => ?_
  (conv => whnf); refine Hid.seq ?_; refine Hid.reg ?_; (conv => whnf); refine SBox.f ?_; (conv => whnf); refine Hid.seq ?_; refine Hid.reg ?_; (conv => whnf); refine SCall.p (by exact name_any w0 _ h1) ?_; (conv => whnf); refine SCond.mk (fun hc => ?_) (fun hc => ?_); (conv => whnf); rotate_left; (conv => whnf)
  rotate_right
  refine SCond.y (by assumption) ?_; (conv => whnf); refine SCond.y (by assumption) ?_; (conv => whnf); refine SCall.p (by exact pattern_any w0 _ (by omega)) ?_; (conv => whnf); refine SPick.y (by assumption) ?_; (conv => whnf); refine SCond.mk (fun hc => ?_) (fun hc => ?_); (conv => whnf); rotate_left; (conv => whnf)
  rotate_right
  refine SCond.y (by assumption) ?_; (conv => whnf); refine SCond.y (by assumption) ?_; (conv => whnf); refine SCall.p (by exact attrs_any w0 _ h3) ?_; (conv => whnf); refine SPick.y (by assumption) ?_; (conv => whnf); refine SCond.mk (fun hc => ?_) (fun hc => ?_); (conv => whnf); rotate_left; (conv => whnf)
  rotate_right
  refine SCond.y (by assumption) ?_; (conv => whnf); refine SCond.y (by assumption) ?_; (conv => whnf); refine SCond.y (by assumption) ?_; (conv => whnf); refine SPick.y (by assumption) ?_; (conv => whnf); refine Hid.seq ?_; refine Hid.reg ?_; (conv => whnf); refine SCall.p (by exact between_any w0 _ _ _) ?_; (conv => whnf); refine SCond.mk (fun hc => ?_) (fun hc => ?_); (conv => whnf); rotate_left
  (conv => whnf)
  rotate_right
  refine SCond.y (by assumption) ?_; (conv => whnf); refine SCond.y (by assumption) ?_; (conv => whnf); refine SCall.p (by exact between_any w0 _ _ _) ?_; (conv => whnf); refine SPick.y (by assumption) ?_; (conv => whnf); refine SCond.mk (fun hc => ?_) (fun hc => ?_); (conv => whnf); rotate_left; (conv => whnf)
  rotate_right
  refine SCond.y (by assumption) ?_; (conv => whnf); refine SCond.y (by assumption) ?_; (conv => whnf); refine SCall.p (by exact between_any w0 _ _ _) ?_; (conv => whnf); refine SPick.y (by assumption) ?_; (conv => whnf); refine SCond.mk (fun hc => ?_) (fun hc => ?_); (conv => whnf); rotate_left; (conv => whnf)
  rotate_right
  refine SCond.y (by assumption) ?_; (conv => whnf); refine SCond.y (by assumption) ?_; (conv => whnf); refine SPick.y (by assumption) ?_; (conv => whnf); refine SCond.mk (fun hc => ?_) (fun hc => ?_); (conv => whnf); rotate_left; (conv => whnf)
  rotate_right
  refine SCond.y (by assumption) ?_; (conv => whnf); refine SCond.y (by assumption) ?_; (conv => whnf); refine SCond.y (by assumption) ?_; (conv => whnf); refine SPick.y (by assumption) ?_; (conv => whnf); refine Hid.seq ?_; refine Hid.reg ?_; (conv => whnf); refine SCond.mk (fun hc => ?_) (fun hc => ?_); (conv => whnf); rotate_left; (conv => whnf)
  rotate_right
  refine SPick.y (by assumption) ?_; (conv => whnf); refine SCond.mk (fun hc => ?_) (fun hc => ?_); (conv => whnf); rotate_left; (conv => whnf)
  rotate_right
  refine SCond.y (by assumption) ?_; (conv => whnf); refine SCond.y (by assumption) ?_; (conv => whnf); refine SCond.y (by assumption) ?_; (conv => whnf); refine SPick.y (by assumption) ?_; (conv => whnf); refine SCond.mk (fun hc => ?_) (fun hc => ?_); (conv => whnf); rotate_left; (conv => whnf)
  rotate_right
  refine SCond.y (by assumption) ?_; (conv => whnf); refine SCond.y (by assumption) ?_; (conv => whnf); refine SCond.y (by assumption) ?_; (conv => whnf); refine SPick.y (by assumption) ?_; (conv => whnf); refine Hid.ret ?_; (conv => whnf); rotate_left; refine SCond.n (by assumption) ?_; (conv => whnf); refine SCond.n (by assumption) ?_; (conv => whnf); refine SCond.n (by assumption) ?_
  (conv => whnf); refine SPick.n (by assumption) ?_; (conv => whnf); refine Hid.ret ?_; (conv => whnf); rotate_left; refine SCond.n (by assumption) ?_; (conv => whnf); refine SCond.n (by assumption) ?_; (conv => whnf); refine SCond.n (by assumption) ?_; (conv => whnf); refine SPick.n (by assumption) ?_; (conv => whnf); refine SCond.n (by exact rfl) ?_; (conv => whnf)
  refine SCond.n (by exact rfl) ?_; (conv => whnf); refine SCond.n (by exact rfl) ?_; (conv => whnf); refine SCond.n (by exact rfl) ?_; (conv => whnf); refine SPick.n (by exact rfl) ?_; (conv => whnf); refine Hid.ret ?_; (conv => whnf); rotate_left; refine SPick.n (by assumption) ?_; (conv => whnf); refine SCond.n (by exact rfl) ?_; (conv => whnf); refine SCond.n (by exact rfl) ?_; (conv => whnf)
  refine SCond.n (by exact rfl) ?_; (conv => whnf); refine SCond.n (by exact rfl) ?_; (conv => whnf); refine SPick.n (by exact rfl) ?_; (conv => whnf); refine SCond.n (by exact rfl) ?_; (conv => whnf); refine SCond.n (by exact rfl) ?_; (conv => whnf); refine SCond.n (by exact rfl) ?_; (conv => whnf); refine SCond.n (by exact rfl) ?_; (conv => whnf); refine SPick.n (by exact rfl) ?_; (conv => whnf)
  refine Hid.ret ?_; (conv => whnf); rotate_left; refine SCond.n (by assumption) ?_; (conv => whnf); refine SCond.n (by assumption) ?_; (conv => whnf); refine SCond.n (by assumption) ?_; (conv => whnf); refine SPick.n (by assumption) ?_; (conv => whnf); refine Hid.seq ?_; refine Hid.reg ?_; (conv => whnf); refine SCond.mk (fun hc => ?_) (fun hc => ?_); (conv => whnf); rotate_left; (conv => whnf)
  rotate_right
  refine SPick.y (by assumption) ?_; (conv => whnf); refine SCond.n (by exact rfl) ?_; (conv => whnf); refine SCond.n (by exact rfl) ?_; (conv => whnf); refine SCond.n (by exact rfl) ?_; (conv => whnf); refine SCond.n (by exact rfl) ?_; (conv => whnf); refine SPick.n (by exact rfl) ?_; (conv => whnf); refine SCond.n (by exact rfl) ?_; (conv => whnf); refine SCond.n (by exact rfl) ?_; (conv => whnf)
  refine SCond.n (by exact rfl) ?_; (conv => whnf); refine SCond.n (by exact rfl) ?_; (conv => whnf); refine SPick.n (by exact rfl) ?_; (conv => whnf); refine Hid.ret ?_; (conv => whnf); rotate_left; refine SPick.n (by assumption) ?_; (conv => whnf); refine SCond.n (by exact rfl) ?_; (conv => whnf); refine SCond.n (by exact rfl) ?_; (conv => whnf); refine SCond.n (by exact rfl) ?_; (conv => whnf)
  refine SCond.n (by exact rfl) ?_; (conv => whnf); refine SPick.n (by exact rfl) ?_; (conv => whnf); refine SCond.n (by exact rfl) ?_; (conv => whnf); refine SCond.n (by exact rfl) ?_; (conv => whnf); refine SCond.n (by exact rfl) ?_; (conv => whnf); refine SCond.n (by exact rfl) ?_; (conv => whnf); refine SPick.n (by exact rfl) ?_; (conv => whnf); refine Hid.ret ?_; (conv => whnf); rotate_left
  refine SCond.n (by assumption) ?_; (conv => whnf); refine SCond.n (by assumption) ?_; (conv => whnf); refine SPick.n (by assumption) ?_; (conv => whnf); refine SCond.n (by exact rfl) ?_; (conv => whnf); refine SCond.n (by exact rfl) ?_; (conv => whnf); refine SCond.n (by exact rfl) ?_; (conv => whnf); refine SCond.n (by exact rfl) ?_; (conv => whnf); refine SPick.n (by exact rfl) ?_
  (conv => whnf); refine Hid.seq ?_; refine Hid.reg ?_; (conv => whnf); refine SCond.mk (fun hc => ?_) (fun hc => ?_); (conv => whnf); rotate_left; (conv => whnf)
  rotate_right
  refine SPick.y (by assumption) ?_; (conv => whnf); refine SCond.n (by exact rfl) ?_; (conv => whnf); refine SCond.n (by exact rfl) ?_; (conv => whnf); refine SCond.n (by exact rfl) ?_; (conv => whnf); refine SCond.n (by exact rfl) ?_; (conv => whnf); refine SPick.n (by exact rfl) ?_; (conv => whnf); refine SCond.n (by exact rfl) ?_; (conv => whnf); refine SCond.n (by exact rfl) ?_; (conv => whnf)
  refine SCond.n (by exact rfl) ?_; (conv => whnf); refine SCond.n (by exact rfl) ?_; (conv => whnf); refine SPick.n (by exact rfl) ?_; (conv => whnf); refine Hid.ret ?_; (conv => whnf); rotate_left; refine SPick.n (by assumption) ?_; (conv => whnf); refine SCond.n (by exact rfl) ?_; (conv => whnf); refine SCond.n (by exact rfl) ?_; (conv => whnf); refine SCond.n (by exact rfl) ?_; (conv => whnf)
  refine SCond.n (by exact rfl) ?_; (conv => whnf); refine SPick.n (by exact rfl) ?_; (conv => whnf); refine SCond.n (by exact rfl) ?_; (conv => whnf); refine SCond.n (by exact rfl) ?_; (conv => whnf); refine SCond.n (by exact rfl) ?_; (conv => whnf); refine SCond.n (by exact rfl) ?_; (conv => whnf); refine SPick.n (by exact rfl) ?_; (conv => whnf); refine Hid.ret ?_; (conv => whnf); rotate_left
  refine SCond.n (by assumption) ?_; (conv => whnf); refine SCond.n (by assumption) ?_; (conv => whnf); refine SPick.n (by assumption) ?_; (conv => whnf); refine SCond.n (by exact rfl) ?_; (conv => whnf); refine SCond.n (by exact rfl) ?_; (conv => whnf); refine SCond.n (by exact rfl) ?_; (conv => whnf); refine SPick.n (by exact rfl) ?_; (conv => whnf); refine SCond.n (by exact rfl) ?_
  (conv => whnf); refine SCond.n (by exact rfl) ?_; (conv => whnf); refine SCond.n (by exact rfl) ?_; (conv => whnf); refine SCond.n (by exact rfl) ?_; (conv => whnf); refine SPick.n (by exact rfl) ?_; (conv => whnf); refine Hid.seq ?_; refine Hid.reg ?_; (conv => whnf); refine SCond.mk (fun hc => ?_) (fun hc => ?_); (conv => whnf); rotate_left; (conv => whnf)
  rotate_right
  refine SPick.y (by assumption) ?_; (conv => whnf); refine SCond.n (by exact rfl) ?_; (conv => whnf); refine SCond.n (by exact rfl) ?_; (conv => whnf); refine SCond.n (by exact rfl) ?_; (conv => whnf); refine SCond.n (by exact rfl) ?_; (conv => whnf); refine SPick.n (by exact rfl) ?_; (conv => whnf); refine SCond.n (by exact rfl) ?_; (conv => whnf); refine SCond.n (by exact rfl) ?_; (conv => whnf)
  refine SCond.n (by exact rfl) ?_; (conv => whnf); refine SCond.n (by exact rfl) ?_; (conv => whnf); refine SPick.n (by exact rfl) ?_; (conv => whnf); refine Hid.ret ?_; (conv => whnf); rotate_left; refine SPick.n (by assumption) ?_; (conv => whnf); refine SCond.n (by exact rfl) ?_; (conv => whnf); refine SCond.n (by exact rfl) ?_; (conv => whnf); refine SCond.n (by exact rfl) ?_; (conv => whnf)
  refine SCond.n (by exact rfl) ?_; (conv => whnf); refine SPick.n (by exact rfl) ?_; (conv => whnf); refine SCond.n (by exact rfl) ?_; (conv => whnf); refine SCond.n (by exact rfl) ?_; (conv => whnf); refine SCond.n (by exact rfl) ?_; (conv => whnf); refine SCond.n (by exact rfl) ?_; (conv => whnf); refine SPick.n (by exact rfl) ?_; (conv => whnf); refine Hid.ret ?_; (conv => whnf); rotate_left
  refine SCond.n (by assumption) ?_; (conv => whnf); refine SCond.n (by assumption) ?_; (conv => whnf); refine SPick.n (by assumption) ?_; (conv => whnf); refine SCond.n (by exact rfl) ?_; (conv => whnf); refine SCond.n (by exact rfl) ?_; (conv => whnf); refine SCond.n (by exact rfl) ?_; (conv => whnf); refine SPick.n (by exact rfl) ?_; (conv => whnf); refine SCond.n (by exact rfl) ?_
  (conv => whnf); refine SCond.n (by exact rfl) ?_; (conv => whnf); refine SCond.n (by exact rfl) ?_; (conv => whnf); refine SPick.n (by exact rfl) ?_; (conv => whnf); refine SCond.n (by exact rfl) ?_; (conv => whnf); refine SCond.n (by exact rfl) ?_; (conv => whnf); refine SCond.n (by exact rfl) ?_; (conv => whnf); refine SCond.n (by exact rfl) ?_; (conv => whnf); refine SPick.n (by exact rfl) ?_
  (conv => whnf); refine Hid.seq ?_; refine Hid.reg ?_; (conv => whnf); refine SCond.mk (fun hc => ?_) (fun hc => ?_); (conv => whnf); rotate_left; (conv => whnf)
  rotate_right
  refine SPick.y (by assumption) ?_; (conv => whnf); refine SCond.n (by exact rfl) ?_; (conv => whnf); refine SCond.n (by exact rfl) ?_; (conv => whnf); refine SCond.n (by exact rfl) ?_; (conv => whnf); refine SCond.n (by exact rfl) ?_; (conv => whnf); refine SPick.n (by exact rfl) ?_; (conv => whnf); refine SCond.n (by exact rfl) ?_; (conv => whnf); refine SCond.n (by exact rfl) ?_; (conv => whnf)
  refine SCond.n (by exact rfl) ?_; (conv => whnf); refine SCond.n (by exact rfl) ?_; (conv => whnf); refine SPick.n (by exact rfl) ?_; (conv => whnf); refine Hid.ret ?_; (conv => whnf); rotate_left; refine SPick.n (by assumption) ?_; (conv => whnf); refine SCond.n (by exact rfl) ?_; (conv => whnf); refine SCond.n (by exact rfl) ?_; (conv => whnf); refine SCond.n (by exact rfl) ?_; (conv => whnf)
  refine SCond.n (by exact rfl) ?_; (conv => whnf); refine SPick.n (by exact rfl) ?_; (conv => whnf); refine SCond.n (by exact rfl) ?_; (conv => whnf); refine SCond.n (by exact rfl) ?_; (conv => whnf); refine SCond.n (by exact rfl) ?_; (conv => whnf); refine SCond.n (by exact rfl) ?_; (conv => whnf); refine SPick.n (by exact rfl) ?_; (conv => whnf); refine Hid.ret ?_; (conv => whnf); rotate_left
  refine SCond.n (by assumption) ?_; (conv => whnf); refine SCond.n (by assumption) ?_; (conv => whnf); refine SCond.n (by assumption) ?_; (conv => whnf); refine SPick.n (by assumption) ?_; (conv => whnf); refine Hid.seq ?_; refine Hid.reg ?_; (conv => whnf); refine SCall.p (by exact between_any w0 _ _ _) ?_; (conv => whnf); refine SCond.mk (fun hc => ?_) (fun hc => ?_); (conv => whnf); rotate_left
  (conv => whnf)
  rotate_right
  refine SCond.y (by assumption) ?_; (conv => whnf); refine SCond.y (by assumption) ?_; (conv => whnf); refine SCall.p (by exact between_any w0 _ _ _) ?_; (conv => whnf); refine SPick.y (by assumption) ?_; (conv => whnf); refine SCond.mk (fun hc => ?_) (fun hc => ?_); (conv => whnf); rotate_left; (conv => whnf)
  rotate_right
  refine SCond.y (by assumption) ?_; (conv => whnf); refine SCond.y (by assumption) ?_; (conv => whnf); refine SCall.p (by exact between_any w0 _ _ _) ?_; (conv => whnf); refine SPick.y (by assumption) ?_; (conv => whnf); refine SCond.mk (fun hc => ?_) (fun hc => ?_); (conv => whnf); rotate_left; (conv => whnf)
  rotate_right
  refine SCond.y (by assumption) ?_; (conv => whnf); refine SCond.y (by assumption) ?_; (conv => whnf); refine SPick.y (by assumption) ?_; (conv => whnf); refine SCond.mk (fun hc => ?_) (fun hc => ?_); (conv => whnf); rotate_left; (conv => whnf)
  rotate_right
  refine SCond.y (by assumption) ?_; (conv => whnf); refine SCond.y (by assumption) ?_; (conv => whnf); refine SCond.y (by assumption) ?_; (conv => whnf); refine SPick.y (by assumption) ?_; (conv => whnf); refine Hid.seq ?_; refine Hid.reg ?_; (conv => whnf); refine SCond.n (by exact rfl) ?_; (conv => whnf); refine SPick.n (by exact rfl) ?_; (conv => whnf); refine SCond.n (by exact rfl) ?_
  (conv => whnf); refine SCond.n (by exact rfl) ?_; (conv => whnf); refine SCond.n (by exact rfl) ?_; (conv => whnf); refine SCond.n (by exact rfl) ?_; (conv => whnf); refine SPick.n (by exact rfl) ?_; (conv => whnf); refine SCond.n (by exact rfl) ?_; (conv => whnf); refine SCond.n (by exact rfl) ?_; (conv => whnf); refine SCond.n (by exact rfl) ?_; (conv => whnf); refine SCond.n (by exact rfl) ?_
  (conv => whnf); refine SPick.n (by exact rfl) ?_; (conv => whnf); refine Hid.ret ?_; (conv => whnf); rotate_left; refine SCond.n (by assumption) ?_; (conv => whnf); refine SCond.n (by assumption) ?_; (conv => whnf); refine SCond.n (by assumption) ?_; (conv => whnf); refine SPick.n (by assumption) ?_; (conv => whnf); refine Hid.seq ?_; refine Hid.reg ?_; (conv => whnf)
  refine SCond.n (by exact rfl) ?_; (conv => whnf); refine SPick.n (by exact rfl) ?_; (conv => whnf); refine SCond.n (by exact rfl) ?_; (conv => whnf); refine SCond.n (by exact rfl) ?_; (conv => whnf); refine SCond.n (by exact rfl) ?_; (conv => whnf); refine SCond.n (by exact rfl) ?_; (conv => whnf); refine SPick.n (by exact rfl) ?_; (conv => whnf); refine SCond.n (by exact rfl) ?_; (conv => whnf)
  refine SCond.n (by exact rfl) ?_; (conv => whnf); refine SCond.n (by exact rfl) ?_; (conv => whnf); refine SCond.n (by exact rfl) ?_; (conv => whnf); refine SPick.n (by exact rfl) ?_; (conv => whnf); refine Hid.ret ?_; (conv => whnf); rotate_left; refine SCond.n (by assumption) ?_; (conv => whnf); refine SCond.n (by assumption) ?_; (conv => whnf); refine SPick.n (by assumption) ?_; (conv => whnf)
  refine SCond.n (by exact rfl) ?_; (conv => whnf); refine SCond.n (by exact rfl) ?_; (conv => whnf); refine SCond.n (by exact rfl) ?_; (conv => whnf); refine SCond.n (by exact rfl) ?_; (conv => whnf); refine SPick.n (by exact rfl) ?_; (conv => whnf); refine Hid.seq ?_; refine Hid.reg ?_; (conv => whnf); refine SCond.n (by exact rfl) ?_; (conv => whnf); refine SPick.n (by exact rfl) ?_
  (conv => whnf); refine SCond.n (by exact rfl) ?_; (conv => whnf); refine SCond.n (by exact rfl) ?_; (conv => whnf); refine SCond.n (by exact rfl) ?_; (conv => whnf); refine SCond.n (by exact rfl) ?_; (conv => whnf); refine SPick.n (by exact rfl) ?_; (conv => whnf); refine SCond.n (by exact rfl) ?_; (conv => whnf); refine SCond.n (by exact rfl) ?_; (conv => whnf); refine SCond.n (by exact rfl) ?_
  (conv => whnf); refine SCond.n (by exact rfl) ?_; (conv => whnf); refine SPick.n (by exact rfl) ?_; (conv => whnf); refine Hid.ret ?_; (conv => whnf); rotate_left; refine SCond.n (by assumption) ?_; (conv => whnf); refine SCond.n (by assumption) ?_; (conv => whnf); refine SPick.n (by assumption) ?_; (conv => whnf); refine SCond.n (by exact rfl) ?_; (conv => whnf); refine SCond.n (by exact rfl) ?_
  (conv => whnf); refine SCond.n (by exact rfl) ?_; (conv => whnf); refine SPick.n (by exact rfl) ?_; (conv => whnf); refine SCond.n (by exact rfl) ?_; (conv => whnf); refine SCond.n (by exact rfl) ?_; (conv => whnf); refine SCond.n (by exact rfl) ?_; (conv => whnf); refine SCond.n (by exact rfl) ?_; (conv => whnf); refine SPick.n (by exact rfl) ?_; (conv => whnf); refine Hid.seq ?_
  refine Hid.reg ?_; (conv => whnf); refine SCond.n (by exact rfl) ?_; (conv => whnf); refine SPick.n (by exact rfl) ?_; (conv => whnf); refine SCond.n (by exact rfl) ?_; (conv => whnf); refine SCond.n (by exact rfl) ?_; (conv => whnf); refine SCond.n (by exact rfl) ?_; (conv => whnf); refine SCond.n (by exact rfl) ?_; (conv => whnf); refine SPick.n (by exact rfl) ?_; (conv => whnf)
  refine SCond.n (by exact rfl) ?_; (conv => whnf); refine SCond.n (by exact rfl) ?_; (conv => whnf); refine SCond.n (by exact rfl) ?_; (conv => whnf); refine SCond.n (by exact rfl) ?_; (conv => whnf); refine SPick.n (by exact rfl) ?_; (conv => whnf); refine Hid.ret ?_; (conv => whnf); rotate_left; refine SCond.n (by assumption) ?_; (conv => whnf); refine SCond.n (by assumption) ?_; (conv => whnf)
  refine SPick.n (by assumption) ?_; (conv => whnf); refine SCond.n (by exact rfl) ?_; (conv => whnf); refine SCond.n (by exact rfl) ?_; (conv => whnf); refine SCond.n (by exact rfl) ?_; (conv => whnf); refine SPick.n (by exact rfl) ?_; (conv => whnf); refine SCond.n (by exact rfl) ?_; (conv => whnf); refine SCond.n (by exact rfl) ?_; (conv => whnf); refine SCond.n (by exact rfl) ?_; (conv => whnf)
  refine SPick.n (by exact rfl) ?_; (conv => whnf); refine SCond.n (by exact rfl) ?_; (conv => whnf); refine SCond.n (by exact rfl) ?_; (conv => whnf); refine SCond.n (by exact rfl) ?_; (conv => whnf); refine SCond.n (by exact rfl) ?_; (conv => whnf); refine SPick.n (by exact rfl) ?_; (conv => whnf); refine Hid.seq ?_; refine Hid.reg ?_; (conv => whnf); refine SCond.n (by exact rfl) ?_
  (conv => whnf); refine SPick.n (by exact rfl) ?_; (conv => whnf); refine SCond.n (by exact rfl) ?_; (conv => whnf); refine SCond.n (by exact rfl) ?_; (conv => whnf); refine SCond.n (by exact rfl) ?_; (conv => whnf); refine SCond.n (by exact rfl) ?_; (conv => whnf); refine SPick.n (by exact rfl) ?_; (conv => whnf); refine SCond.n (by exact rfl) ?_; (conv => whnf); refine SCond.n (by exact rfl) ?_
  (conv => whnf); refine SCond.n (by exact rfl) ?_; (conv => whnf); refine SCond.n (by exact rfl) ?_; (conv => whnf); refine SPick.n (by exact rfl) ?_; (conv => whnf); refine Hid.ret ?_; (conv => whnf); rotate_left; refine SCond.n (by assumption) ?_; (conv => whnf); refine SCond.n (by assumption) ?_; (conv => whnf); refine SPick.n (by assumption) ?_; (conv => whnf); refine SCond.n (by exact rfl) ?_
  (conv => whnf); refine SCond.n (by exact rfl) ?_; (conv => whnf); refine SCond.n (by exact rfl) ?_; (conv => whnf); refine SCond.n (by exact rfl) ?_; (conv => whnf); refine SPick.n (by exact rfl) ?_; (conv => whnf); refine Hid.seq ?_; refine Hid.reg ?_; (conv => whnf); refine SCall.p (by exact between_any w0 _ _ _) ?_; (conv => whnf); refine SCond.mk (fun hc => ?_) (fun hc => ?_); (conv => whnf)
  rotate_left; (conv => whnf)
  rotate_right
  refine SCond.y (by assumption) ?_; (conv => whnf); refine SCond.y (by assumption) ?_; (conv => whnf); refine SCall.p (by exact between_any w0 _ _ _) ?_; (conv => whnf); refine SPick.y (by assumption) ?_; (conv => whnf); refine SCond.mk (fun hc => ?_) (fun hc => ?_); (conv => whnf); rotate_left; (conv => whnf)
  rotate_right
  refine SCond.y (by assumption) ?_; (conv => whnf); refine SCond.y (by assumption) ?_; (conv => whnf); refine SCall.p (by exact between_any w0 _ _ _) ?_; (conv => whnf); refine SPick.y (by assumption) ?_; (conv => whnf); refine SCond.mk (fun hc => ?_) (fun hc => ?_); (conv => whnf); rotate_left; (conv => whnf)
  rotate_right
  refine SCond.y (by assumption) ?_; (conv => whnf); refine SCond.y (by assumption) ?_; (conv => whnf); refine SPick.y (by assumption) ?_; (conv => whnf); refine SCond.mk (fun hc => ?_) (fun hc => ?_); (conv => whnf); rotate_left; (conv => whnf)
  rotate_right
  refine SCond.y (by assumption) ?_; (conv => whnf); refine SCond.y (by assumption) ?_; (conv => whnf); refine SCond.y (by assumption) ?_; (conv => whnf); refine SPick.y (by assumption) ?_; (conv => whnf); refine Hid.seq ?_; refine Hid.reg ?_; (conv => whnf); refine SCond.n (by exact rfl) ?_; (conv => whnf); refine SPick.n (by exact rfl) ?_; (conv => whnf); refine SCond.n (by exact rfl) ?_
  (conv => whnf); refine SCond.n (by exact rfl) ?_; (conv => whnf); refine SCond.n (by exact rfl) ?_; (conv => whnf); refine SCond.n (by exact rfl) ?_; (conv => whnf); refine SPick.n (by exact rfl) ?_; (conv => whnf); refine SCond.n (by exact rfl) ?_; (conv => whnf); refine SCond.n (by exact rfl) ?_; (conv => whnf); refine SCond.n (by exact rfl) ?_; (conv => whnf); refine SCond.n (by exact rfl) ?_
  (conv => whnf); refine SPick.n (by exact rfl) ?_; (conv => whnf); refine Hid.ret ?_; (conv => whnf); rotate_left; refine SCond.n (by assumption) ?_; (conv => whnf); refine SCond.n (by assumption) ?_; (conv => whnf); refine SCond.n (by assumption) ?_; (conv => whnf); refine SPick.n (by assumption) ?_; (conv => whnf); refine Hid.seq ?_; refine Hid.reg ?_; (conv => whnf)
  refine SCond.n (by exact rfl) ?_; (conv => whnf); refine SPick.n (by exact rfl) ?_; (conv => whnf); refine SCond.n (by exact rfl) ?_; (conv => whnf); refine SCond.n (by exact rfl) ?_; (conv => whnf); refine SCond.n (by exact rfl) ?_; (conv => whnf); refine SCond.n (by exact rfl) ?_; (conv => whnf); refine SPick.n (by exact rfl) ?_; (conv => whnf); refine SCond.n (by exact rfl) ?_; (conv => whnf)
  refine SCond.n (by exact rfl) ?_; (conv => whnf); refine SCond.n (by exact rfl) ?_; (conv => whnf); refine SCond.n (by exact rfl) ?_; (conv => whnf); refine SPick.n (by exact rfl) ?_; (conv => whnf); refine Hid.ret ?_; (conv => whnf); rotate_left; refine SCond.n (by assumption) ?_; (conv => whnf); refine SCond.n (by assumption) ?_; (conv => whnf); refine SPick.n (by assumption) ?_; (conv => whnf)
  refine SCond.n (by exact rfl) ?_; (conv => whnf); refine SCond.n (by exact rfl) ?_; (conv => whnf); refine SCond.n (by exact rfl) ?_; (conv => whnf); refine SCond.n (by exact rfl) ?_; (conv => whnf); refine SPick.n (by exact rfl) ?_; (conv => whnf); refine Hid.seq ?_; refine Hid.reg ?_; (conv => whnf); refine SCond.n (by exact rfl) ?_; (conv => whnf); refine SPick.n (by exact rfl) ?_
  (conv => whnf); refine SCond.n (by exact rfl) ?_; (conv => whnf); refine SCond.n (by exact rfl) ?_; (conv => whnf); refine SCond.n (by exact rfl) ?_; (conv => whnf); refine SCond.n (by exact rfl) ?_; (conv => whnf); refine SPick.n (by exact rfl) ?_; (conv => whnf); refine SCond.n (by exact rfl) ?_; (conv => whnf); refine SCond.n (by exact rfl) ?_; (conv => whnf); refine SCond.n (by exact rfl) ?_
  (conv => whnf); refine SCond.n (by exact rfl) ?_; (conv => whnf); refine SPick.n (by exact rfl) ?_; (conv => whnf); refine Hid.ret ?_; (conv => whnf); rotate_left; refine SCond.n (by assumption) ?_; (conv => whnf); refine SCond.n (by assumption) ?_; (conv => whnf); refine SPick.n (by assumption) ?_; (conv => whnf); refine SCond.n (by exact rfl) ?_; (conv => whnf); refine SCond.n (by exact rfl) ?_
  (conv => whnf); refine SCond.n (by exact rfl) ?_; (conv => whnf); refine SPick.n (by exact rfl) ?_; (conv => whnf); refine SCond.n (by exact rfl) ?_; (conv => whnf); refine SCond.n (by exact rfl) ?_; (conv => whnf); refine SCond.n (by exact rfl) ?_; (conv => whnf); refine SCond.n (by exact rfl) ?_; (conv => whnf); refine SPick.n (by exact rfl) ?_; (conv => whnf); refine Hid.seq ?_
  refine Hid.reg ?_; (conv => whnf); refine SCond.n (by exact rfl) ?_; (conv => whnf); refine SPick.n (by exact rfl) ?_; (conv => whnf); refine SCond.n (by exact rfl) ?_; (conv => whnf); refine SCond.n (by exact rfl) ?_; (conv => whnf); refine SCond.n (by exact rfl) ?_; (conv => whnf); refine SCond.n (by exact rfl) ?_; (conv => whnf); refine SPick.n (by exact rfl) ?_; (conv => whnf)
  refine SCond.n (by exact rfl) ?_; (conv => whnf); refine SCond.n (by exact rfl) ?_; (conv => whnf); refine SCond.n (by exact rfl) ?_; (conv => whnf); refine SCond.n (by exact rfl) ?_; (conv => whnf); refine SPick.n (by exact rfl) ?_; (conv => whnf); refine Hid.ret ?_; (conv => whnf); rotate_left; refine SCond.n (by assumption) ?_; (conv => whnf); refine SCond.n (by assumption) ?_; (conv => whnf)
  refine SPick.n (by assumption) ?_; (conv => whnf); refine SCond.n (by exact rfl) ?_; (conv => whnf); refine SCond.n (by exact rfl) ?_; (conv => whnf); refine SCond.n (by exact rfl) ?_; (conv => whnf); refine SPick.n (by exact rfl) ?_; (conv => whnf); refine SCond.n (by exact rfl) ?_; (conv => whnf); refine SCond.n (by exact rfl) ?_; (conv => whnf); refine SCond.n (by exact rfl) ?_; (conv => whnf)
  refine SPick.n (by exact rfl) ?_; (conv => whnf); refine SCond.n (by exact rfl) ?_; (conv => whnf); refine SCond.n (by exact rfl) ?_; (conv => whnf); refine SCond.n (by exact rfl) ?_; (conv => whnf); refine SCond.n (by exact rfl) ?_; (conv => whnf); refine SPick.n (by exact rfl) ?_; (conv => whnf); refine Hid.seq ?_; refine Hid.reg ?_; (conv => whnf); refine SCond.n (by exact rfl) ?_
  (conv => whnf); refine SPick.n (by exact rfl) ?_; (conv => whnf); refine SCond.n (by exact rfl) ?_; (conv => whnf); refine SCond.n (by exact rfl) ?_; (conv => whnf); refine SCond.n (by exact rfl) ?_; (conv => whnf); refine SCond.n (by exact rfl) ?_; (conv => whnf); refine SPick.n (by exact rfl) ?_; (conv => whnf); refine SCond.n (by exact rfl) ?_; (conv => whnf); refine SCond.n (by exact rfl) ?_
  (conv => whnf); refine SCond.n (by exact rfl) ?_; (conv => whnf); refine SCond.n (by exact rfl) ?_; (conv => whnf); refine SPick.n (by exact rfl) ?_; (conv => whnf); refine Hid.ret ?_; (conv => whnf); rotate_left; refine SCond.n (by assumption) ?_; (conv => whnf); refine SCond.n (by assumption) ?_; (conv => whnf); refine SPick.n (by assumption) ?_; (conv => whnf); refine SCond.n (by exact rfl) ?_
  (conv => whnf); refine SCond.n (by exact rfl) ?_; (conv => whnf); refine SCond.n (by exact rfl) ?_; (conv => whnf); refine SPick.n (by exact rfl) ?_; (conv => whnf); refine SCond.n (by exact rfl) ?_; (conv => whnf); refine SCond.n (by exact rfl) ?_; (conv => whnf); refine SCond.n (by exact rfl) ?_; (conv => whnf); refine SCond.n (by exact rfl) ?_; (conv => whnf); refine SPick.n (by exact rfl) ?_
  (conv => whnf); refine Hid.seq ?_; refine Hid.reg ?_; (conv => whnf); refine SCall.p (by exact between_any w0 _ _ _) ?_; (conv => whnf); refine SCond.mk (fun hc => ?_) (fun hc => ?_); (conv => whnf); rotate_left; (conv => whnf)
  rotate_right
  refine SCond.y (by assumption) ?_; (conv => whnf); refine SCond.y (by assumption) ?_; (conv => whnf); refine SCall.p (by exact between_any w0 _ _ _) ?_; (conv => whnf); refine SPick.y (by assumption) ?_; (conv => whnf); refine SCond.mk (fun hc => ?_) (fun hc => ?_); (conv => whnf); rotate_left; (conv => whnf)
  rotate_right
  refine SCond.y (by assumption) ?_; (conv => whnf); refine SCond.y (by assumption) ?_; (conv => whnf); refine SCall.p (by exact between_any w0 _ _ _) ?_; (conv => whnf); refine SPick.y (by assumption) ?_; (conv => whnf); refine SCond.mk (fun hc => ?_) (fun hc => ?_); (conv => whnf); rotate_left; (conv => whnf)
  rotate_right
  refine SCond.y (by assumption) ?_; (conv => whnf); refine SCond.y (by assumption) ?_; (conv => whnf); refine SPick.y (by assumption) ?_; (conv => whnf); refine SCond.mk (fun hc => ?_) (fun hc => ?_); (conv => whnf); rotate_left; (conv => whnf)
  rotate_right
  refine SCond.y (by assumption) ?_; (conv => whnf); refine SCond.y (by assumption) ?_; (conv => whnf); refine SCond.y (by assumption) ?_; (conv => whnf); refine SPick.y (by assumption) ?_; (conv => whnf); refine Hid.seq ?_; refine Hid.reg ?_; (conv => whnf); refine SCond.n (by exact rfl) ?_; (conv => whnf); refine SPick.n (by exact rfl) ?_; (conv => whnf); refine SCond.n (by exact rfl) ?_
  (conv => whnf); refine SCond.n (by exact rfl) ?_; (conv => whnf); refine SCond.n (by exact rfl) ?_; (conv => whnf); refine SCond.n (by exact rfl) ?_; (conv => whnf); refine SPick.n (by exact rfl) ?_; (conv => whnf); refine SCond.n (by exact rfl) ?_; (conv => whnf); refine SCond.n (by exact rfl) ?_; (conv => whnf); refine SCond.n (by exact rfl) ?_; (conv => whnf); refine SCond.n (by exact rfl) ?_
  (conv => whnf); refine SPick.n (by exact rfl) ?_; (conv => whnf); refine Hid.ret ?_; (conv => whnf); rotate_left; refine SCond.n (by assumption) ?_; (conv => whnf); refine SCond.n (by assumption) ?_; (conv => whnf); refine SCond.n (by assumption) ?_; (conv => whnf); refine SPick.n (by assumption) ?_; (conv => whnf); refine Hid.seq ?_; refine Hid.reg ?_; (conv => whnf)
  refine SCond.n (by exact rfl) ?_; (conv => whnf); refine SPick.n (by exact rfl) ?_; (conv => whnf); refine SCond.n (by exact rfl) ?_; (conv => whnf); refine SCond.n (by exact rfl) ?_; (conv => whnf); refine SCond.n (by exact rfl) ?_; (conv => whnf); refine SCond.n (by exact rfl) ?_; (conv => whnf); refine SPick.n (by exact rfl) ?_; (conv => whnf); refine SCond.n (by exact rfl) ?_; (conv => whnf)
  refine SCond.n (by exact rfl) ?_; (conv => whnf); refine SCond.n (by exact rfl) ?_; (conv => whnf); refine SCond.n (by exact rfl) ?_; (conv => whnf); refine SPick.n (by exact rfl) ?_; (conv => whnf); refine Hid.ret ?_; (conv => whnf); rotate_left; refine SCond.n (by assumption) ?_; (conv => whnf); refine SCond.n (by assumption) ?_; (conv => whnf); refine SPick.n (by assumption) ?_; (conv => whnf)
  refine SCond.n (by exact rfl) ?_; (conv => whnf); refine SCond.n (by exact rfl) ?_; (conv => whnf); refine SCond.n (by exact rfl) ?_; (conv => whnf); refine SCond.n (by exact rfl) ?_; (conv => whnf); refine SPick.n (by exact rfl) ?_; (conv => whnf); refine Hid.seq ?_; refine Hid.reg ?_; (conv => whnf); refine SCond.n (by exact rfl) ?_; (conv => whnf); refine SPick.n (by exact rfl) ?_
  (conv => whnf); refine SCond.n (by exact rfl) ?_; (conv => whnf); refine SCond.n (by exact rfl) ?_; (conv => whnf); refine SCond.n (by exact rfl) ?_; (conv => whnf); refine SCond.n (by exact rfl) ?_; (conv => whnf); refine SPick.n (by exact rfl) ?_; (conv => whnf); refine SCond.n (by exact rfl) ?_; (conv => whnf); refine SCond.n (by exact rfl) ?_; (conv => whnf); refine SCond.n (by exact rfl) ?_
  (conv => whnf); refine SCond.n (by exact rfl) ?_; (conv => whnf); refine SPick.n (by exact rfl) ?_; (conv => whnf); refine Hid.ret ?_; (conv => whnf); rotate_left; refine SCond.n (by assumption) ?_; (conv => whnf); refine SCond.n (by assumption) ?_; (conv => whnf); refine SPick.n (by assumption) ?_; (conv => whnf); refine SCond.n (by exact rfl) ?_; (conv => whnf); refine SCond.n (by exact rfl) ?_
  (conv => whnf); refine SCond.n (by exact rfl) ?_; (conv => whnf); refine SPick.n (by exact rfl) ?_; (conv => whnf); refine SCond.n (by exact rfl) ?_; (conv => whnf); refine SCond.n (by exact rfl) ?_; (conv => whnf); refine SCond.n (by exact rfl) ?_; (conv => whnf); refine SCond.n (by exact rfl) ?_; (conv => whnf); refine SPick.n (by exact rfl) ?_; (conv => whnf); refine Hid.seq ?_
  refine Hid.reg ?_; (conv => whnf); refine SCond.n (by exact rfl) ?_; (conv => whnf); refine SPick.n (by exact rfl) ?_; (conv => whnf); refine SCond.n (by exact rfl) ?_; (conv => whnf); refine SCond.n (by exact rfl) ?_; (conv => whnf); refine SCond.n (by exact rfl) ?_; (conv => whnf); refine SCond.n (by exact rfl) ?_; (conv => whnf); refine SPick.n (by exact rfl) ?_; (conv => whnf)
  refine SCond.n (by exact rfl) ?_; (conv => whnf); refine SCond.n (by exact rfl) ?_; (conv => whnf); refine SCond.n (by exact rfl) ?_; (conv => whnf); refine SCond.n (by exact rfl) ?_; (conv => whnf); refine SPick.n (by exact rfl) ?_; (conv => whnf); refine Hid.ret ?_; (conv => whnf); rotate_left; refine SCond.n (by assumption) ?_; (conv => whnf); refine SCond.n (by assumption) ?_; (conv => whnf)
  refine SPick.n (by assumption) ?_; (conv => whnf); refine SCond.n (by exact rfl) ?_; (conv => whnf); refine SCond.n (by exact rfl) ?_; (conv => whnf); refine SCond.n (by exact rfl) ?_; (conv => whnf); refine SPick.n (by exact rfl) ?_; (conv => whnf); refine SCond.n (by exact rfl) ?_; (conv => whnf); refine SCond.n (by exact rfl) ?_; (conv => whnf); refine SCond.n (by exact rfl) ?_; (conv => whnf)
  refine SPick.n (by exact rfl) ?_; (conv => whnf); refine SCond.n (by exact rfl) ?_; (conv => whnf); refine SCond.n (by exact rfl) ?_; (conv => whnf); refine SCond.n (by exact rfl) ?_; (conv => whnf); refine SCond.n (by exact rfl) ?_; (conv => whnf); refine SPick.n (by exact rfl) ?_; (conv => whnf); refine Hid.seq ?_; refine Hid.reg ?_; (conv => whnf); refine SCond.n (by exact rfl) ?_
  (conv => whnf); refine SPick.n (by exact rfl) ?_; (conv => whnf); refine SCond.n (by exact rfl) ?_; (conv => whnf); refine SCond.n (by exact rfl) ?_; (conv => whnf); refine SCond.n (by exact rfl) ?_; (conv => whnf); refine SCond.n (by exact rfl) ?_; (conv => whnf); refine SPick.n (by exact rfl) ?_; (conv => whnf); refine SCond.n (by exact rfl) ?_; (conv => whnf); refine SCond.n (by exact rfl) ?_
  (conv => whnf); refine SCond.n (by exact rfl) ?_; (conv => whnf); refine SCond.n (by exact rfl) ?_; (conv => whnf); refine SPick.n (by exact rfl) ?_; (conv => whnf); refine Hid.ret ?_; (conv => whnf); rotate_left
  all_goals
    refine .p (.refl _) (congrArg AV.bool ?_); clear h1 h2 h3 hx
    rw [fieldsT, Bool.eq_iff_iff]
    simp only [btw]
    first
      | (simp_all; done)
      | (simp_all; omega)
end Go.Proofs.YtgliemhhnkhboaaGreatDoor
end
section
set_option linter.unusedVariables false
set_option linter.unusedSimpArgs false
set_option maxRecDepth 100000
set_option maxHeartbeats 2000000
namespace Go.Proofs.YtgliemhhnkhboaaGreatDoor
open Go.Al Go.RowKit
def idxI (n : Int) : List Int → Nat → Int
  | [], _ => -1
  | x :: l, k => if n = x then k else idxI n l (k + 1)
theorem idxI_mem (n : Int) : ∀ (l : List Int) (k : Nat), decide (0 ≤ idxI n l k) = decide (n ∈ l)
  | [], k => by simp [idxI]
  | x :: l, k => by
    rw [idxI]
    by_cases h : n = x
    · simp [h]
    · rw [if_neg h, idxI_mem n l (k + 1)]; simp [h]
theorem index_ints (w0 : Base) (l : List Int) (t : Tok) (n : Int) (hl : l.length ≤ 1000000000) : CallP Tryz.prog w0 56 [.slc 1 (l.map (.int .i64)) t, .int .i64 n] (.int .i64 (idxI n l 0)) := by
  refine CallP.h Ty.tok Ty.mixed Tryz.func56 rfl Tryz.ntmps56 rfl (by simp) (by decide +kernel) fun σ => ?_
  (conv => whnf); refine Hid.seq ?_; refine Hid.reg ?_; (conv => whnf); refine Hid.seq ?_; refine Hid.seq ?_; refine Hid.reg ?_; (conv => whnf); refine Hid.block ?_; refine Hid.loop ?_
  skip
  refine SLoop.by Ty.mixed (fun i : Nat => l.length - i) (fun i => [(0, .slc 1 (l.map (.int .i64)) t), (1, .int .i64 n), (7, .int .i64 l.length), (8, .int .i64 i)]) (fun _ => []) (fun i τ => i ≤ l.length ∧ idxI n (l.drop i) i = idxI n l 0 ∧ τ = σ) 0 ⟨?_, .none _, Nat.zero_le _, rfl, rfl⟩ ?_
  · show xWeak [(0, .slc 1 (l.map (.int .i64)) t), (1, .int .i64 n), (7, .int .i64 l.length), (8, .int .i64 (0 : Nat))] _
    rw [show l.length = (l.map (AV.int .i64)).length by simp]
    repeat (first | exact trivial | refine ⟨by first | trivial | exact Weak.refl _ | exact Weak.tok _ _ _ | exact Weak.of_eq (congrArg (AV.int _) (by omega)) | exact Weak.of_eq (congrArg AV.bool (by fail)) | exact Weak.nils _ _ (.inr rfl), ?_⟩)
  rintro i τ ⟨hi, hd, rfl⟩; refine Xc_h ?_; (conv => whnf); refine Hid.seq ?_; refine Hid.reg ?_; (conv => whnf); refine Hid.seq ?_; refine Hid.cond rfl ?_
  skip
  refine SIf.x Ty.mixed (fun hc => ?_) (fun hc => ?_); refine Xc_h ?_; (conv => whnf); refine Hid.skip ?_; (conv => whnf); refine Hid.seq ?_; refine Hid.seq ?_; refine Hid.reg ?_; (conv => whnf); refine Hid.seq ?_; refine Hid.reg ?_; (conv => whnf); rotate_left; refine Xc_h ?_; (conv => whnf); refine Hid.exit ?_; (conv => whnf); refine Hid.seq ?_; refine Hid.reg ?_; (conv => whnf)
  refine Hid.ret ?_; (conv => whnf)
  rotate_right
  · have hlt : i < l.length := by simp at hc; omega
    have ga : (l.map (AV.int .i64))[i]? = some (.int .i64 l[i]) := by simp [hlt]
    have hln : (l.map (AV.int .i64)).length = l.length := by simp
    rw [List.drop_eq_getElem_cons hlt, idxI] at hd
    generalize l[i] = x at *
    refine ⟨_, ⟨by first | omega | (simp only [List.length_map]; omega), by exact ga⟩, ?_⟩
    (conv => whnf); refine Hid.cond rfl ?_; refine SIf.x Ty.mixed (fun hc => ?_) (fun hc => ?_); refine Xc_h ?_; (conv => whnf); refine Hid.seq ?_; refine Hid.reg ?_; (conv => whnf); refine Hid.ret ?_; (conv => whnf); rotate_left; refine Xc_h ?_; (conv => whnf); refine Hid.skip ?_; (conv => whnf); refine Hid.reg ?_; (conv => whnf)
    rotate_right
    · have he : n = x := by simpa using hc
      rw [if_pos he] at hd
      skip
      exact .p (.refl _) (by rw [hd])
    · have he : ¬ n = x := by simpa using hc
      rw [if_neg he] at hd
      refine ⟨_, IntWalk.i64_in _ (by omega), ?_⟩; (conv => whnf)
      exact ⟨i + 1, by omega, by repeat (first | exact trivial | refine ⟨by first | trivial | exact Weak.refl _ | exact Weak.tok _ _ _ | exact Weak.of_eq (congrArg (AV.int _) (by omega)) | exact Weak.of_eq (congrArg AV.bool (by fail)) | exact Weak.nils _ _ (.inr rfl), ?_⟩), .none _, hlt, hd, rfl⟩
  · have hge : i = l.length := by simp at hc; omega
    subst hge
    rw [List.drop_length, idxI] at hd
    skip
    exact .p (.refl _) (by rw [← hd])
theorem contains_ints (w0 : Base) (l : List Int) (t : Tok) (n : Int) (hl : l.length ≤ 1000000000) : CallP Tryz.prog w0 36 [.slc 1 (l.map (.int .i64)) t, .int .i64 n] (.bool (decide (n ∈ l))) := by
  refine CallP.h Ty.tok Ty.mixed Tryz.func36 rfl Tryz.ntmps36 rfl (by simp) (by decide +kernel) fun σ => ?_
  (conv => whnf); refine Hid.seq ?_; refine Hid.reg ?_; (conv => whnf); refine Hid.seq ?_; refine Hid.reg ?_; (conv => whnf); refine SCall.p (by exact index_ints w0 l t n hl) ?_; (conv => whnf); refine Hid.ret ?_; (conv => whnf); exact .p (.refl _) (by rw [idxI_mem])
def goodA (next : Int) : Int → List Int → Bool
  | _, [] => true
  | last, n :: l => btw n (last + 1) (next - 1) && goodA next n l
def goodQ (acks : List Int) (most lease clock next : Int) : Int → List Msg → Bool
  | _, [] => true
  | last, m :: l => (btw m.seq (last + 1) (next - 1) && (!decide (m.seq ∈ acks) && msgT m most lease clock)) && goodQ acks most lease clock next m.seq l
def goodT (x : Sub) (clock next : Int) : Bool := fieldsT x next && (goodA next x.floor x.acks && goodQ x.acks x.most x.lease clock next x.floor x.queue)
theorem fieldsT_of {x : Sub} {next : Int} (h : fieldsT x next = true) : (1 ≤ x.lease ∧ x.lease ≤ 1000) ∧ (1 ≤ x.most ∧ x.most ≤ 9) ∧ 0 ≤ x.floor ∧ x.floor < next := by
  simp only [fieldsT, btw, Bool.and_eq_true, decide_eq_true_eq] at h
  omega
theorem good_any (w0 : Base) (x : Sub) (clock next : Int) (hx : Small x) (hn : next ≤ 9223372036854775807) (hck : -4611686018427387904 ≤ clock ∧ clock ≤ 4611686018427387904) : CallP Tryz.prog w0 18 [eSub x, .int .i64 clock, .int .i64 next] (.bool (goodT x clock next)) := by
  refine CallP.h Ty.tok Ty.mixed Tryz.func18 rfl Tryz.ntmps18 rfl (by simp) (by decide +kernel) fun σ => ?_
  (conv => whnf); refine Hid.seq ?_; refine Hid.reg ?_; (conv => whnf); refine SBox.f ?_; (conv => whnf); refine Hid.seq ?_; refine Hid.seq ?_; refine Hid.reg ?_; (conv => whnf); refine SCall.p (by exact fields_any w0 x next hx) ?_; (conv => whnf); refine Hid.cond rfl ?_
  cases hf : fieldsT x next with
  | false =>
    refine SIf.y Ty.mixed rfl ?_; refine Xc_h ?_; (conv => whnf); refine Hid.seq ?_; refine Hid.reg ?_; (conv => whnf); refine Hid.ret ?_; (conv => whnf)
    skip
    exact .p (.refl _) (by rw [goodT, hf]; rfl)
  | true =>
    refine SIf.n Ty.mixed rfl ?_
    obtain ⟨hl, hm, hf0, hfn⟩ := fieldsT_of hf
    refine Xc_h ?_; (conv => whnf); refine Hid.skip ?_; (conv => whnf); refine Hid.seq ?_; refine Hid.reg ?_; (conv => whnf); refine Hid.seq ?_; refine Hid.seq ?_; refine Hid.reg ?_; (conv => whnf); refine Hid.block ?_; refine Hid.loop ?_
    skip
    refine SLoop.by Ty.mixed (fun ((i, last) : Nat × Int) => x.acks.length - i) (fun (i, last) => [(1, .int .i64 clock), (2, .int .i64 next), (3, .vp (eSub x)), (7, .int .i64 last), (19, eInts x.acks), (20, .int .i64 x.acks.length), (21, .int .i64 i)]) (fun _ => []) (fun (i, last) τ => i ≤ x.acks.length ∧ (0 ≤ last ∧ last < next) ∧ goodA next last (x.acks.drop i) = goodA next x.floor x.acks ∧ τ = σ) (0, x.floor) ⟨?_, .none _, Nat.zero_le _, ⟨hf0, hfn⟩, rfl, rfl⟩ ?_
    · show xWeak [(1, .int .i64 clock), (2, .int .i64 next), (3, .vp (eSub x)), (7, .int .i64 x.floor), (19, eInts x.acks), (20, .int .i64 x.acks.length), (21, .int .i64 (0 : Nat))] _
      rw [show x.acks.length = (x.acks.map (AV.int .i64)).length by simp]
      repeat (first | exact trivial | refine ⟨by first | trivial | exact Weak.refl _ | exact Weak.tok _ _ _ | exact Weak.of_eq (congrArg (AV.int _) (by omega)) | exact Weak.of_eq (congrArg AV.bool (by fail)) | exact Weak.nils _ _ (.inr rfl), ?_⟩)
    have hna := hx.nacks
    have hnq := hx.nqueue
    rintro ⟨i, last⟩ τ ⟨hi, ⟨hl0, hln⟩, hd, rfl⟩; refine Xc_h ?_; (conv => whnf); refine Hid.seq ?_; refine Hid.reg ?_; (conv => whnf); refine Hid.seq ?_; refine Hid.cond rfl ?_
    skip
    refine SIf.x Ty.mixed (fun hc => ?_) (fun hc => ?_); refine Xc_h ?_; (conv => whnf); refine Hid.skip ?_; (conv => whnf); refine Hid.seq ?_; refine Hid.seq ?_; refine Hid.reg ?_; (conv => whnf); rotate_left; refine Xc_h ?_; (conv => whnf); refine Hid.exit ?_; (conv => whnf); refine Hid.seq ?_; refine Hid.reg ?_; (conv => whnf); refine Hid.seq ?_; refine Hid.seq ?_; refine Hid.reg ?_
    (conv => whnf); refine Hid.block ?_; refine Hid.loop ?_
    rotate_right
    · have hlt : i < x.acks.length := by simp at hc; omega
      have ga : (x.acks.map (AV.int .i64))[i]? = some (.int .i64 x.acks[i]) := by simp [hlt]
      rw [List.drop_eq_getElem_cons hlt, goodA] at hd
      generalize x.acks[i] = n at *
      refine ⟨_, ⟨by first | omega | (simp only [List.length_map]; omega), by exact ga⟩, ?_⟩
      (conv => whnf); refine Hid.seq ?_; refine Hid.seq ?_; refine Hid.reg ?_; (conv => whnf); refine ⟨_, IntWalk.i64_in _ (by omega), ?_⟩; (conv => whnf); refine ⟨_, IntWalk.i64_in _ (by omega), ?_⟩; (conv => whnf); refine SCall.p (by exact between_any w0 _ _ _) ?_; (conv => whnf); refine Hid.cond rfl ?_
      cases hb : (decide (last + 1 ≤ n) && decide (n ≤ next - 1)) with
      | false =>
        refine SIf.y Ty.mixed rfl ?_; refine Xc_h ?_; (conv => whnf); refine Hid.seq ?_; refine Hid.reg ?_; (conv => whnf); refine Hid.ret ?_; (conv => whnf)
        skip
        exact .p (.refl _) (by rw [goodT, ← hd, btw, hb]; simp)
      | true =>
        refine SIf.n Ty.mixed rfl ?_
        rw [btw, hb, Bool.true_and] at hd
        simp only [Bool.and_eq_true, decide_eq_true_eq] at hb
        refine Xc_h ?_; (conv => whnf); refine Hid.skip ?_; (conv => whnf); refine Hid.reg ?_; (conv => whnf); refine Hid.reg ?_; (conv => whnf); refine ⟨_, IntWalk.i64_in _ (by omega), ?_⟩; (conv => whnf)
        exact ⟨(i + 1, n), by show x.acks.length - (i + 1) < x.acks.length - i; omega, by repeat (first | exact trivial | refine ⟨by first | trivial | exact Weak.refl _ | exact Weak.tok _ _ _ | exact Weak.of_eq (congrArg (AV.int _) (by omega)) | exact Weak.of_eq (congrArg AV.bool (by fail)) | exact Weak.nils _ _ (.inr rfl), ?_⟩), .none _, hlt, ⟨by omega, by omega⟩, hd, rfl⟩
    · have hge : i = x.acks.length := by simp at hc; omega
      subst hge
      rw [List.drop_length] at hd
      have hA : goodA next x.floor x.acks = true := hd.symm
      clear hd hc hi hl0 hln
      skip
      refine SLoop.by Ty.mixed (fun ((i, last) : Nat × Int) => x.queue.length - i) (fun (i, last) => [(1, .int .i64 clock), (2, .int .i64 next), (3, .vp (eSub x)), (7, .int .i64 last), (37, eMsgs x.queue), (38, .int .i64 x.queue.length), (39, .int .i64 i)]) (fun _ => []) (fun (i, last) s => i ≤ x.queue.length ∧ (0 ≤ last ∧ last < next) ∧ goodQ x.acks x.most x.lease clock next last (x.queue.drop i) = goodQ x.acks x.most x.lease clock next x.floor x.queue ∧ St.Le τ s) (0, x.floor) ⟨?_, .none _, Nat.zero_le _, ⟨hf0, hfn⟩, rfl, .refl _⟩ ?_
      · show xWeak [(1, .int .i64 clock), (2, .int .i64 next), (3, .vp (eSub x)), (7, .int .i64 x.floor), (37, eMsgs x.queue), (38, .int .i64 x.queue.length), (39, .int .i64 (0 : Nat))] _
        rw [show x.queue.length = (x.queue.map eMsg).length by simp]
        repeat (first | exact trivial | refine ⟨by first | trivial | exact Weak.refl _ | exact Weak.tok _ _ _ | exact Weak.of_eq (congrArg (AV.int _) (by omega)) | exact Weak.of_eq (congrArg AV.bool (by fail)) | exact Weak.nils _ _ (.inr rfl), ?_⟩)
      rintro ⟨i, last⟩ s ⟨hi, ⟨hl0, hln⟩, hd, hle⟩; refine Xc_h ?_; (conv => whnf); refine Hid.seq ?_; refine Hid.reg ?_; (conv => whnf); refine Hid.seq ?_; refine Hid.cond rfl ?_
      skip
      refine SIf.x Ty.mixed (fun hc => ?_) (fun hc => ?_); refine Xc_h ?_; (conv => whnf); refine Hid.skip ?_; (conv => whnf); refine Hid.seq ?_; refine Hid.seq ?_; refine Hid.reg ?_; (conv => whnf); rotate_left; refine Xc_h ?_; (conv => whnf); refine Hid.exit ?_; (conv => whnf); refine Hid.seq ?_; refine Hid.reg ?_; (conv => whnf); refine Hid.ret ?_; (conv => whnf)
      rotate_right
      · have hlt : i < x.queue.length := by simp at hc; omega
        have ga : (x.queue.map eMsg)[i]? = some (eMsg x.queue[i]) := by simp [hlt]
        have hat := hx.attr _ (List.getElem_mem hlt)
        rw [List.drop_eq_getElem_cons hlt, goodQ] at hd
        generalize x.queue[i] = m at *
        refine ⟨_, ⟨by first | omega | (simp only [List.length_map]; omega), by exact ga⟩, ?_⟩
        (conv => whnf); intro b11 hb11; (conv => whnf); refine SStore.on 0 rfl ?_; (conv => whnf); refine Hid.seq ?_; refine Hid.seq ?_; refine Hid.reg ?_; (conv => whnf); refine SLoad.on 0 rfl ?_; (conv => whnf); refine ⟨_, IntWalk.i64_in _ (by omega), ?_⟩; (conv => whnf); refine ⟨_, IntWalk.i64_in _ (by omega), ?_⟩; (conv => whnf); refine SCall.p (by exact between_any w0 _ _ _) ?_; (conv => whnf)
        refine SCond.mk (fun hc => ?_) (fun hc => ?_); (conv => whnf); rotate_left; (conv => whnf)
        rotate_right
        refine SCond.y (by assumption) ?_; (conv => whnf); refine SCond.y (by assumption) ?_; (conv => whnf); refine SCond.y (by assumption) ?_; (conv => whnf); refine SCond.y (by assumption) ?_; (conv => whnf); refine SPick.y (by assumption) ?_; (conv => whnf); refine SCond.y (by exact rfl) ?_; (conv => whnf); refine SCond.y (by exact rfl) ?_; (conv => whnf); refine SCond.y (by exact rfl) ?_
        (conv => whnf); refine SCond.y (by exact rfl) ?_; (conv => whnf); refine SCond.y (by exact rfl) ?_; (conv => whnf); refine SPick.y (by exact rfl) ?_; (conv => whnf); refine Hid.cond rfl ?_; refine SIf.y Ty.mixed (by exact rfl) ?_; refine Xc_h ?_; (conv => whnf); refine Hid.seq ?_; refine Hid.reg ?_; (conv => whnf); refine Hid.ret ?_; (conv => whnf); rotate_left
        refine SCond.n (by assumption) ?_; (conv => whnf); refine SCond.n (by assumption) ?_; (conv => whnf); refine SCond.n (by assumption) ?_; (conv => whnf); refine SLoad.on 0 rfl ?_; (conv => whnf); refine SCond.n (by assumption) ?_; (conv => whnf); refine SCall.p (by exact contains_ints w0 _ _ _ hna) ?_; (conv => whnf); refine SPick.n (by assumption) ?_; (conv => whnf)
        refine SCond.mk (fun hc => ?_) (fun hc => ?_); (conv => whnf); rotate_left; (conv => whnf)
        rotate_right
        refine SCond.y (by assumption) ?_; (conv => whnf); refine SCond.y (by assumption) ?_; (conv => whnf); refine SCond.y (by assumption) ?_; (conv => whnf); refine SCond.y (by assumption) ?_; (conv => whnf); refine SPick.y (by assumption) ?_; (conv => whnf); refine Hid.cond rfl ?_; refine SIf.y Ty.mixed (by exact rfl) ?_; refine Xc_h ?_; (conv => whnf); refine Hid.seq ?_; refine Hid.reg ?_
        (conv => whnf); refine Hid.ret ?_; (conv => whnf); rotate_left; refine SLoad.on 0 rfl ?_; (conv => whnf); refine SCond.n (by assumption) ?_; (conv => whnf); refine SCond.n (by assumption) ?_; (conv => whnf); refine SCond.n (by assumption) ?_; (conv => whnf); refine SCall.p (by exact message_any w0 m x clock hat hm hl hck) ?_; (conv => whnf); refine SCond.n (by assumption) ?_; (conv => whnf)
        refine SPick.n (by assumption) ?_; (conv => whnf); refine Hid.cond rfl ?_; refine SIf.x Ty.mixed (fun hc => ?_) (fun hc => ?_); refine Xc_h ?_; (conv => whnf); refine Hid.seq ?_; refine Hid.reg ?_; (conv => whnf); refine Hid.ret ?_; (conv => whnf); rotate_left; refine Xc_h ?_; (conv => whnf); refine Hid.skip ?_; (conv => whnf); refine Hid.reg ?_; (conv => whnf)
        rotate_right
        rotate_left; refine SLoad.on 0 rfl ?_; (conv => whnf); refine Hid.reg ?_; (conv => whnf); refine ⟨_, IntWalk.i64_in _ (by omega), ?_⟩; (conv => whnf); rotate_left
        all_goals
          rw [btw] at hd
          generalize hq1 : (decide (last + 1 ≤ m.seq) && decide (m.seq ≤ next - 1)) = q1 at *
          generalize decide (m.seq ∈ x.acks) = q2 at *
          generalize msgT m x.most x.lease clock = q3 at *
          first
            | (have hb : (q1 && (!q2 && q3)) = false := by
                 clear hd hx hn hck hf hl hm hf0 hfn hna hnq hA hi hl0 hln hle hlt ga hat hq1 hb11
                 cases q1 <;> cases q2 <;> cases q3 <;> simp_all
               rw [hb, Bool.false_and] at hd
               exact .p (le_new2 hle hb11) (by rw [goodT, hf, hA, ← hd]; rfl))
            | (have hb : (q1 && (!q2 && q3)) = true := by
                 clear hd hx hn hck hf hl hm hf0 hfn hna hnq hA hi hl0 hln hle hlt ga hat hq1 hb11
                 cases q1 <;> cases q2 <;> cases q3 <;> simp_all
               rw [hb, Bool.true_and] at hd
               obtain rfl : q1 = true := by
                 cases q1
                 · cases hb
                 · rfl
               simp only [Bool.and_eq_true, decide_eq_true_eq] at hq1
               exact ⟨(i + 1, m.seq), by show x.queue.length - (i + 1) < x.queue.length - i; omega, by repeat (first | exact trivial | refine ⟨by first | trivial | exact Weak.refl _ | exact Weak.tok _ _ _ | exact Weak.of_eq (congrArg (AV.int _) (by omega)) | exact Weak.of_eq (congrArg AV.bool (by fail)) | exact Weak.nils _ _ (.inr rfl), ?_⟩), .none _, hlt, ⟨by omega, by omega⟩, hd, le_new2 hle hb11⟩)
      · have hge : i = x.queue.length := by simp at hc; omega
        subst hge
        rw [List.drop_length] at hd
        skip
        exact .p hle (by rw [goodT, hf, hA, ← hd]; rfl)
end Go.Proofs.YtgliemhhnkhboaaGreatDoor
end
section
set_option linter.unusedVariables false
set_option linter.unusedSimpArgs false
set_option maxRecDepth 100000
set_option maxHeartbeats 2000000
namespace Go.Proofs.YtgliemhhnkhboaaGreatDoor
open Go.Al Go.RowKit
theorem weak_nils {sz : Nat} : Weak (.slc sz [] .full) .nils := .nils sz .full (.inr rfl)
theorem cloneI_any (w0 : Base) (xs : List AV) (t : Tok) (hn : xs.length ≤ 1000000000) : CallP Tryz.prog w0 51 [.slc 1 xs t] (.slc 1 xs .no) := fun σ => by
  refine CallW.room ?_; refine CallW.h (B := []) Ty.tok Ty.mixed Tryz.func51 rfl Tryz.ntmps51 rfl (by simp) (by decide +kernel) (.nil σ) ?_
  have hm0 := Moves.full σ
  cases xs with
  | nil =>
    (conv => whnf); refine Hid.seq ?_; refine Hid.reg ?_; (conv => whnf); refine Hid.seq ?_; refine Hid.seq ?_; refine Hid.reg ?_; (conv => whnf)
    skip
    refine SBoth.mk ?_ ?_
    · (conv => whnf)
      refine Hid.cond rfl ?_; refine SIf.y Ty.mixed (by exact rfl) ?_; refine Xc_h ?_; (conv => whnf); refine Hid.seq ?_; refine Hid.reg ?_; (conv => whnf); refine Hid.ret ?_; (conv => whnf)
      exact ⟨fun hB => ⟨.slc 1 [] .full, σ, weak_nils, .refl _, .full, rfl, .full σ⟩⟩
    · (conv => whnf)
      refine Hid.cond rfl ?_; refine SIf.n Ty.mixed (by exact rfl) ?_; refine Xc_h ?_; (conv => whnf); refine Hid.skip ?_; (conv => whnf); refine Hid.seq ?_; refine Hid.reg ?_; (conv => whnf)
      refine SApp.c rfl rfl (by assumption) (by simp) fun tk1 σ1 hm => ?_
      (conv => whnf); refine Hid.ret ?_; (conv => whnf); exact .w ⟨_, rfl, hm⟩
  | cons x l =>
    (conv => whnf); refine Hid.seq ?_; refine Hid.reg ?_; (conv => whnf); refine Hid.seq ?_; refine Hid.seq ?_; refine Hid.reg ?_; (conv => whnf); refine Hid.cond rfl ?_; refine SIf.n Ty.mixed (by exact rfl) ?_; refine Xc_h ?_; (conv => whnf); refine Hid.skip ?_; (conv => whnf); refine Hid.seq ?_; refine Hid.reg ?_; (conv => whnf)
    refine SApp.c rfl rfl (by assumption) (by simp only [List.length_cons, List.length_nil] at *; omega) fun tk1 σ1 hm => ?_
    (conv => whnf); refine Hid.ret ?_; (conv => whnf); exact .w ⟨_, rfl, hm⟩
theorem cloneM_any (w0 : Base) (xs : List AV) (t : Tok) (hn : xs.length ≤ 1000000000) : CallP Tryz.prog w0 52 [.slc 8 xs t] (.slc 8 xs .no) := fun σ => by
  refine CallW.room ?_; refine CallW.h (B := []) Ty.tok Ty.mixed Tryz.func52 rfl Tryz.ntmps52 rfl (by simp) (by decide +kernel) (.nil σ) ?_
  have hm0 := Moves.full σ
  cases xs with
  | nil =>
    (conv => whnf); refine Hid.seq ?_; refine Hid.reg ?_; (conv => whnf); refine Hid.seq ?_; refine Hid.seq ?_; refine Hid.reg ?_; (conv => whnf)
    skip
    refine SBoth.mk ?_ ?_
    · (conv => whnf)
      refine Hid.cond rfl ?_; refine SIf.y Ty.mixed (by exact rfl) ?_; refine Xc_h ?_; (conv => whnf); refine Hid.seq ?_; refine Hid.reg ?_; (conv => whnf); refine Hid.ret ?_; (conv => whnf)
      exact ⟨fun hB => ⟨.slc 8 [] .full, σ, weak_nils, .refl _, .full, rfl, .full σ⟩⟩
    · (conv => whnf)
      refine Hid.cond rfl ?_; refine SIf.n Ty.mixed (by exact rfl) ?_; refine Xc_h ?_; (conv => whnf); refine Hid.skip ?_; (conv => whnf); refine Hid.seq ?_; refine Hid.reg ?_; (conv => whnf)
      refine SApp.c rfl rfl (by assumption) (by simp) fun tk1 σ1 hm => ?_
      (conv => whnf); refine Hid.ret ?_; (conv => whnf); exact .w ⟨_, rfl, hm⟩
  | cons x l =>
    (conv => whnf); refine Hid.seq ?_; refine Hid.reg ?_; (conv => whnf); refine Hid.seq ?_; refine Hid.seq ?_; refine Hid.reg ?_; (conv => whnf); refine Hid.cond rfl ?_; refine SIf.n Ty.mixed (by exact rfl) ?_; refine Xc_h ?_; (conv => whnf); refine Hid.skip ?_; (conv => whnf); refine Hid.seq ?_; refine Hid.reg ?_; (conv => whnf)
    refine SApp.c rfl rfl (by assumption) (by simp only [List.length_cons, List.length_nil] at *; omega) fun tk1 σ1 hm => ?_
    (conv => whnf); refine Hid.ret ?_; (conv => whnf); exact .w ⟨_, rfl, hm⟩
theorem copied_any (w0 : Base) (x : Sub) (ha : x.acks.length ≤ 1000000000) (hq : x.queue.length ≤ 1000000000) : CallP Tryz.prog w0 32 [eSub x] (eSub x) := by
  refine CallP.h Ty.tok Ty.mixed Tryz.func32 rfl Tryz.ntmps32 rfl (by simp) (by decide +kernel) fun σ => ?_
  (conv => whnf); refine Hid.seq ?_; refine Hid.reg ?_; (conv => whnf); refine SBox.b rfl ?_; (conv => whnf); intro bx hbx; (conv => whnf); intro b2 hb2; (conv => whnf); refine Hid.seq ?_; refine Hid.regD ?_; refine SReg.t 1 [] (by decide +kernel) ?_; (conv => whnf); refine SLoad.on 1 rfl ?_; (conv => whnf); refine SCall.p (by exact cloneI_any w0 _ _ (by simpa using ha)) ?_; (conv => whnf)
  refine SLoad.on 1 rfl ?_; (conv => whnf); refine SCall.p (by exact cloneM_any w0 _ _ (by simpa using hq)) ?_; (conv => whnf); refine SStore.on 1 rfl ?_; (conv => whnf); refine SStore.on 1 rfl ?_; (conv => whnf); refine Hid.seq ?_; refine Hid.reg ?_; (conv => whnf); refine SLoad.on 1 rfl ?_; (conv => whnf); refine SStore.on 0 rfl ?_; (conv => whnf); refine Hid.ret ?_; (conv => whnf)
  refine SLoad.on 0 rfl ?_; (conv => whnf)
  have h2 := le_none (le_new (.refl _) hbx) hb2
  exact .p (le_setBox (le_setBox (le_setBox (le_setBox (le_setBox (.refl _) hbx) h2) hbx) hbx) h2) rfl
def subA (x : Sub) (v : AV) : AV := .agg [.int .i64 x.id, .str x.name, .str x.topic, .str x.want, .int .i64 x.lease, .int .i64 x.most, .int .i64 x.floor, v, eMsgs x.queue, .str x.note]
end Go.Proofs.YtgliemhhnkhboaaGreatDoor
end
section
set_option linter.unusedVariables false
set_option linter.unusedSimpArgs false
set_option maxRecDepth 100000
set_option maxHeartbeats 2000000
namespace Go.Proofs.YtgliemhhnkhboaaGreatDoor
open Go.Al Go.RowKit
def ints (l : List Int) : List AV := l.map (.int .i64)
def idxP (fl : Int) : List Int → Nat → Int
  | [], _ => -1
  | x :: l, k => if x ≤ fl then k else idxP fl l (k + 1)
def over (fl : Int) (l : List Int) : List Int := l.filter fun n => !decide (n ≤ fl)
end Go.Proofs.YtgliemhhnkhboaaGreatDoor
end
section
set_option linter.unusedVariables false
set_option linter.unusedSimpArgs false
set_option maxRecDepth 100000
set_option maxHeartbeats 2000000
namespace Go.Proofs.YtgliemhhnkhboaaGreatDoor
open Go.Al Go.RowKit
def headN (x : Sub) (next : Int) : Int := match x.queue with
  | [] => next
  | m :: _ => m.seq
def settleF (x : Sub) (next : Int) : Int := max x.floor (IntKind.i64.wrap (headN x next - 1))
def settleS (x : Sub) (next : Int) : Sub := { x with floor := settleF x next, acks := over (settleF x next) x.acks }
end Go.Proofs.YtgliemhhnkhboaaGreatDoor
end
section
set_option linter.unusedVariables false
set_option linter.unusedSimpArgs false
set_option maxRecDepth 100000
set_option maxHeartbeats 2000000
namespace Go.Proofs.YtgliemhhnkhboaaGreatDoor
open Go.Al Go.RowKit
structure Stt where
  clock : Int
  next : Int
  last : Int
  subs : List Sub
def eSubs (l : List Sub) : AV := .slc 10 (l.map eSub) .no
def eStt (s : Stt) : AV := .agg [.int .i64 s.clock, .int .i64 s.next, .int .i64 s.last, eSubs s.subs]
theorem eSub_sz (l : List Sub) : ∀ x ∈ l.map eSub, x.cells.length = 10 ∧ ∀ c ∈ x.cells, c.one = true := fun x hx => by
  obtain ⟨y, _, rfl⟩ := List.mem_map.1 hx
  exact ⟨rfl, fun c hc => by
    simp only [eSub, AV.cells, List.mem_cons, List.not_mem_nil, or_false] at hc
    rcases hc with rfl | rfl | rfl | rfl | rfl | rfl | rfl | rfl | rfl | rfl <;> rfl⟩
structure Fine (l : List Sub) : Prop where
  n : l.length ≤ 100000000
  a : ∀ x ∈ l, x.acks.length ≤ 1000000000
  q : ∀ x ∈ l, x.queue.length ≤ 1000000000
def findR (o : Option Sub) : AV := match o with
  | some x => .tup [eSub x, .bool true]
  | none => .tup [eSub sub0, .bool false]
theorem weak_sub0 : Weak (eSub sub0) (.agg [.int .i64 0, .str [], .str [], .str [], .int .i64 0, .int .i64 0, .int .i64 0, .nils, .nils, .str []]) :=
  .agg (.cons (.refl _) (.cons (.refl _) (.cons (.refl _) (.cons (.refl _) (.cons (.refl _) (.cons (.refl _) (.cons (.refl _) (.cons (.nils 1 .no (.inl rfl)) (.cons (.nils 8 .no (.inl rfl)) (.cons (.refl _) .nil)))))))))) (by simp [AV.one, eInts, eMsgs])
theorem find_any (w0 : Base) (s : Stt) (id : Int) (hf : Fine s.subs) : CallP Tryz.prog w0 14 [eStt s, .int .i64 id] (findR (fnd s.subs id)) := by
  refine CallP.h Ty.tok Ty.mixed Tryz.func14 rfl Tryz.ntmps14 rfl (by simp) (by decide +kernel) fun σ => ?_
  obtain ⟨clock, next, last, l⟩ := s
  dsimp only at hf ⊢
  (try refine Xc_h ?_); (try (conv => whnf)); repeat (first | refine Hid.seq ?_ | (refine Hid.reg ?_; (conv => whnf)) | refine Hid.regD ?_ | refine Hid.cond rfl ?_ | refine Hid.block ?_ | refine Hid.loop ?_ | (refine Hid.exit ?_; (conv => whnf)) | (refine Hid.ret ?_; (conv => whnf)) | (refine Hid.skip ?_; (conv => whnf)) | (refine Hid.label ?_; (conv => whnf)) | refine Hid.range ?_)
  repeat' (((first | refine SIf.y Ty.mixed (by first | exact rfl | assumption | fail) ?_ | refine SIf.n Ty.mixed (by first | exact rfl | assumption | fail) ?_ | refine SCond.y (by first | exact rfl | assumption | fail) ?_ | refine SCond.n (by first | exact rfl | assumption | fail) ?_ | refine SPick.y (by first | exact rfl | assumption | fail) ?_ | refine SPick.n (by first | exact rfl | assumption | fail) ?_ | refine SPick.b ?_ | refine SPick.i ?_ | fail | refine SLoad.on 0 rfl ?_ | refine SLoad.on 1 rfl ?_ | refine SLoad.on 2 rfl ?_ | refine SLoad.on 3 rfl ?_ | refine SLoad.on 4 rfl ?_ | refine SLoad.on 5 rfl ?_ | refine SStore.on 0 rfl ?_ | refine SStore.on 1 rfl ?_ | refine SStore.on 2 rfl ?_ | refine SStore.on 3 rfl ?_ | refine SStore.on 4 rfl ?_ | refine SStore.on 5 rfl ?_ | refine SBox.f ?_ | refine SCall.p (by fail) ?_ | fail | refine SApp.c rfl rfl (by first | assumption | exact Moves.more (by assumption) (by assumption) | fail) (by first | (simp only [length_aBytes, List.length_append, List.length_cons, List.length_nil, List.length_map, List.length_range]; omega) | omega | fail) fun tk1 σ1 hm => ?_ | refine SReg.t 0 [] (by decide +kernel) ?_ | refine And.intro (by first | omega | (simp only [List.length_cons, List.length_append, List.length_nil, List.length_map, length_aBytes, List.length_replicate, List.length_range]; omega) | fail) ?_ | refine ⟨_, ⟨by first | omega | (simp only [List.length_cons, List.length_append, List.length_nil, List.length_map, length_aBytes, List.length_replicate, List.length_range]; omega) | fail, by first | assumption | exact get_map (by assumption) | exact get_bytes (by assumption) | fail⟩, ?_⟩ | refine ⟨_, toBytes_aBytes _, ?_⟩ | refine ⟨_, by repeat (first | exact toB_nil | apply toB_cons | apply toB_consC _ (by first | omega | (simp only [List.length_cons, List.length_append, List.length_nil, List.length_map, length_aBytes, List.length_replicate, List.length_range]; omega) | fail)), ?_⟩ | refine ⟨_, IntWalk.i64_in _ (by first | omega | (simp only [List.length_cons, List.length_append, List.length_nil, List.length_map, length_aBytes, List.length_replicate, List.length_range]; omega) | fail), ?_⟩ | refine ⟨_, wrap_u8 _, ?_⟩ | refine ⟨_, rfl, ?_⟩ | intro b4 hb4 | fail); (try refine Xc_h ?_); (try (conv => whnf)); repeat (first | refine Hid.seq ?_ | (refine Hid.reg ?_; (conv => whnf)) | refine Hid.regD ?_ | refine Hid.cond rfl ?_ | refine Hid.block ?_ | refine Hid.loop ?_ | (refine Hid.exit ?_; (conv => whnf)) | (refine Hid.ret ?_; (conv => whnf)) | (refine Hid.skip ?_; (conv => whnf)) | (refine Hid.label ?_; (conv => whnf)) | refine Hid.range ?_)))
  refine SLoop.by Ty.mixed (fun i : Nat => l.length - i) (fun i => [(1, .int .i64 id), (4, .ptr b4 0), (9, eSubs l), (10, .int .i64 l.length), (11, .int .i64 i)]) (fun _ => [(b4, [.int .i64 0, .str [], .str [], .str [], .int .i64 0, .int .i64 0, .int .i64 0, .nils, .nils, .str []])]) (fun i τ => i ≤ l.length ∧ fnd (l.drop i) id = fnd l id ∧ St.Le σ τ) 0 ⟨?_, .refl _, Nat.zero_le _, rfl, le_new (.refl _) hb4⟩ ?_
  · show xWeak [(1, .int .i64 id), (4, .ptr b4 0), (9, eSubs l), (10, .int .i64 l.length), (11, .int .i64 (0 : Nat))] _
    rw [show l.length = (l.map eSub).length by simp]
    repeat (first | exact trivial | refine ⟨by first | trivial | exact Weak.refl _ | exact Weak.tok _ _ _ | exact Weak.of_eq (congrArg (AV.int _) (by omega)) | exact Weak.of_eq (congrArg AV.bool (by fail)) | exact Weak.nils _ _ (.inr rfl), ?_⟩)
  rintro i τ ⟨hi, hd, hle⟩
  (try refine Xc_h ?_); (try (conv => whnf)); repeat (first | refine Hid.seq ?_ | (refine Hid.reg ?_; (conv => whnf)) | refine Hid.regD ?_ | refine Hid.cond rfl ?_ | refine Hid.block ?_ | refine Hid.loop ?_ | (refine Hid.exit ?_; (conv => whnf)) | (refine Hid.ret ?_; (conv => whnf)) | (refine Hid.skip ?_; (conv => whnf)) | (refine Hid.label ?_; (conv => whnf)) | refine Hid.range ?_)
  repeat' (((first | refine SIf.y Ty.mixed (by first | exact rfl | assumption | fail) ?_ | refine SIf.n Ty.mixed (by first | exact rfl | assumption | fail) ?_ | refine SCond.y (by first | exact rfl | assumption | fail) ?_ | refine SCond.n (by first | exact rfl | assumption | fail) ?_ | refine SPick.y (by first | exact rfl | assumption | fail) ?_ | refine SPick.n (by first | exact rfl | assumption | fail) ?_ | refine SPick.b ?_ | refine SPick.i ?_ | fail | refine SLoad.on 0 rfl ?_ | refine SLoad.on 1 rfl ?_ | refine SLoad.on 2 rfl ?_ | refine SLoad.on 3 rfl ?_ | refine SLoad.on 4 rfl ?_ | refine SLoad.on 5 rfl ?_ | refine SStore.on 0 rfl ?_ | refine SStore.on 1 rfl ?_ | refine SStore.on 2 rfl ?_ | refine SStore.on 3 rfl ?_ | refine SStore.on 4 rfl ?_ | refine SStore.on 5 rfl ?_ | refine SBox.f ?_ | refine SCall.p (by fail) ?_ | fail | refine SApp.c rfl rfl (by first | assumption | exact Moves.more (by assumption) (by assumption) | fail) (by first | (simp only [length_aBytes, List.length_append, List.length_cons, List.length_nil, List.length_map, List.length_range]; omega) | omega | fail) fun tk1 σ1 hm => ?_ | refine SReg.t 0 [] (by decide +kernel) ?_ | refine And.intro (by first | omega | (simp only [List.length_cons, List.length_append, List.length_nil, List.length_map, length_aBytes, List.length_replicate, List.length_range]; omega) | fail) ?_ | refine ⟨_, ⟨by first | omega | (simp only [List.length_cons, List.length_append, List.length_nil, List.length_map, length_aBytes, List.length_replicate, List.length_range]; omega) | fail, by first | assumption | exact get_map (by assumption) | exact get_bytes (by assumption) | fail⟩, ?_⟩ | refine ⟨_, toBytes_aBytes _, ?_⟩ | refine ⟨_, by repeat (first | exact toB_nil | apply toB_cons | apply toB_consC _ (by first | omega | (simp only [List.length_cons, List.length_append, List.length_nil, List.length_map, length_aBytes, List.length_replicate, List.length_range]; omega) | fail)), ?_⟩ | refine ⟨_, IntWalk.i64_in _ (by first | omega | (simp only [List.length_cons, List.length_append, List.length_nil, List.length_map, length_aBytes, List.length_replicate, List.length_range]; omega) | fail), ?_⟩ | refine ⟨_, wrap_u8 _, ?_⟩ | refine ⟨_, rfl, ?_⟩ | intro b4 hb4 | fail); (try refine Xc_h ?_); (try (conv => whnf)); repeat (first | refine Hid.seq ?_ | (refine Hid.reg ?_; (conv => whnf)) | refine Hid.regD ?_ | refine Hid.cond rfl ?_ | refine Hid.block ?_ | refine Hid.loop ?_ | (refine Hid.exit ?_; (conv => whnf)) | (refine Hid.ret ?_; (conv => whnf)) | (refine Hid.skip ?_; (conv => whnf)) | (refine Hid.label ?_; (conv => whnf)) | refine Hid.range ?_)))
  (first | refine SIf.x Ty.mixed (fun hc => ?_) (fun hc => ?_) | refine SCond.mk (fun hc => ?_) (fun hc => ?_)) <;> ((try refine Xc_h ?_); (try (conv => whnf)); repeat (first | refine Hid.seq ?_ | (refine Hid.reg ?_; (conv => whnf)) | refine Hid.regD ?_ | refine Hid.cond rfl ?_ | refine Hid.block ?_ | refine Hid.loop ?_ | (refine Hid.exit ?_; (conv => whnf)) | (refine Hid.ret ?_; (conv => whnf)) | (refine Hid.skip ?_; (conv => whnf)) | (refine Hid.label ?_; (conv => whnf)) | refine Hid.range ?_))
  · have hlt : i < l.length := by simp at hc; omega
    have ga : (l.map eSub)[i]? = some (eSub l[i]) := by simp [hlt]
    have hxa := hf.a _ (List.getElem_mem hlt)
    have hxq := hf.q _ (List.getElem_mem hlt)
    have hn := hf.n
    rw [List.drop_eq_getElem_cons hlt, fnd, List.find?_cons] at hd
    generalize l[i] = x at *
    repeat' (((first | refine SIf.y Ty.mixed (by first | exact rfl | assumption | fail) ?_ | refine SIf.n Ty.mixed (by first | exact rfl | assumption | fail) ?_ | refine SCond.y (by first | exact rfl | assumption | fail) ?_ | refine SCond.n (by first | exact rfl | assumption | fail) ?_ | refine SPick.y (by first | exact rfl | assumption | fail) ?_ | refine SPick.n (by first | exact rfl | assumption | fail) ?_ | refine SPick.b ?_ | refine SPick.i ?_ | fail | refine SLoad.on 0 rfl ?_ | refine SLoad.on 1 rfl ?_ | refine SLoad.on 2 rfl ?_ | refine SLoad.on 3 rfl ?_ | refine SLoad.on 4 rfl ?_ | refine SLoad.on 5 rfl ?_ | refine SStore.on 0 rfl ?_ | refine SStore.on 1 rfl ?_ | refine SStore.on 2 rfl ?_ | refine SStore.on 3 rfl ?_ | refine SStore.on 4 rfl ?_ | refine SStore.on 5 rfl ?_ | refine SBox.f ?_ | refine SCall.p (by exact copied_any w0 x hxa hxq) ?_ | fail | refine SApp.c rfl rfl (by first | assumption | exact Moves.more (by assumption) (by assumption) | fail) (by first | (simp only [length_aBytes, List.length_append, List.length_cons, List.length_nil, List.length_map, List.length_range]; omega) | omega | fail) fun tk1 σ1 hm => ?_ | refine SReg.t 0 [] (by decide +kernel) ?_ | refine And.intro (by first | omega | (simp only [List.length_map]; omega)) ?_ | refine ⟨_, ⟨by first | omega | (simp only [List.length_map]; omega), by exact ga⟩, ?_⟩ | refine ⟨_, toBytes_aBytes _, ?_⟩ | refine ⟨_, by repeat (first | exact toB_nil | apply toB_cons | apply toB_consC _ (by first | omega | (simp only [List.length_map]; omega))), ?_⟩ | refine ⟨_, IntWalk.i64_in _ (by first | omega | (simp only [List.length_map]; omega)), ?_⟩ | refine ⟨_, wrap_u8 _, ?_⟩ | refine ⟨_, rfl, ?_⟩ | intro b7 hb7 | fail); (try refine Xc_h ?_); (try (conv => whnf)); repeat (first | refine Hid.seq ?_ | (refine Hid.reg ?_; (conv => whnf)) | refine Hid.regD ?_ | refine Hid.cond rfl ?_ | refine Hid.block ?_ | refine Hid.loop ?_ | (refine Hid.exit ?_; (conv => whnf)) | (refine Hid.ret ?_; (conv => whnf)) | (refine Hid.skip ?_; (conv => whnf)) | (refine Hid.label ?_; (conv => whnf)) | refine Hid.range ?_)))
    (first | refine SIf.x Ty.mixed (fun hc => ?_) (fun hc => ?_) | refine SCond.mk (fun hc => ?_) (fun hc => ?_)) <;> ((try refine Xc_h ?_); (try (conv => whnf)); repeat (first | refine Hid.seq ?_ | (refine Hid.reg ?_; (conv => whnf)) | refine Hid.regD ?_ | refine Hid.cond rfl ?_ | refine Hid.block ?_ | refine Hid.loop ?_ | (refine Hid.exit ?_; (conv => whnf)) | (refine Hid.ret ?_; (conv => whnf)) | (refine Hid.skip ?_; (conv => whnf)) | (refine Hid.label ?_; (conv => whnf)) | refine Hid.range ?_))
    · have he : x.id = id := by simpa using hc
      rw [decide_eq_true he] at hd
      repeat' (((first | refine SIf.y Ty.mixed (by first | exact rfl | assumption | fail) ?_ | refine SIf.n Ty.mixed (by first | exact rfl | assumption | fail) ?_ | refine SCond.y (by first | exact rfl | assumption | fail) ?_ | refine SCond.n (by first | exact rfl | assumption | fail) ?_ | refine SPick.y (by first | exact rfl | assumption | fail) ?_ | refine SPick.n (by first | exact rfl | assumption | fail) ?_ | refine SPick.b ?_ | refine SPick.i ?_ | fail | refine SLoad.on 0 rfl ?_ | refine SLoad.on 1 rfl ?_ | refine SLoad.on 2 rfl ?_ | refine SLoad.on 3 rfl ?_ | refine SLoad.on 4 rfl ?_ | refine SLoad.on 5 rfl ?_ | refine SStore.on 0 rfl ?_ | refine SStore.on 1 rfl ?_ | refine SStore.on 2 rfl ?_ | refine SStore.on 3 rfl ?_ | refine SStore.on 4 rfl ?_ | refine SStore.on 5 rfl ?_ | refine SBox.f ?_ | refine SCall.p (by exact copied_any w0 x hxa hxq) ?_ | fail | refine SApp.c rfl rfl (by first | assumption | exact Moves.more (by assumption) (by assumption) | fail) (by first | (simp only [length_aBytes, List.length_append, List.length_cons, List.length_nil, List.length_map, List.length_range]; omega) | omega | fail) fun tk1 σ1 hm => ?_ | refine SReg.t 0 [] (by decide +kernel) ?_ | refine And.intro (by first | omega | (simp only [List.length_map]; omega)) ?_ | refine ⟨_, ⟨by first | omega | (simp only [List.length_map]; omega), by exact ga⟩, ?_⟩ | refine ⟨_, toBytes_aBytes _, ?_⟩ | refine ⟨_, by repeat (first | exact toB_nil | apply toB_cons | apply toB_consC _ (by first | omega | (simp only [List.length_map]; omega))), ?_⟩ | refine ⟨_, IntWalk.i64_in _ (by first | omega | (simp only [List.length_map]; omega)), ?_⟩ | refine ⟨_, wrap_u8 _, ?_⟩ | refine ⟨_, rfl, ?_⟩ | intro b7 hb7 | fail); (try refine Xc_h ?_); (try (conv => whnf)); repeat (first | refine Hid.seq ?_ | (refine Hid.reg ?_; (conv => whnf)) | refine Hid.regD ?_ | refine Hid.cond rfl ?_ | refine Hid.block ?_ | refine Hid.loop ?_ | (refine Hid.exit ?_; (conv => whnf)) | (refine Hid.ret ?_; (conv => whnf)) | (refine Hid.skip ?_; (conv => whnf)) | (refine Hid.label ?_; (conv => whnf)) | refine Hid.range ?_)))
      exact .p (le_setBox (le_new2 hle hb7) hb4) (by rw [← hd]; rfl)
    · have he : ¬ x.id = id := by simpa using hc
      rw [decide_eq_false he] at hd
      repeat' (((first | refine SIf.y Ty.mixed (by first | exact rfl | assumption | fail) ?_ | refine SIf.n Ty.mixed (by first | exact rfl | assumption | fail) ?_ | refine SCond.y (by first | exact rfl | assumption | fail) ?_ | refine SCond.n (by first | exact rfl | assumption | fail) ?_ | refine SPick.y (by first | exact rfl | assumption | fail) ?_ | refine SPick.n (by first | exact rfl | assumption | fail) ?_ | refine SPick.b ?_ | refine SPick.i ?_ | fail | refine SLoad.on 0 rfl ?_ | refine SLoad.on 1 rfl ?_ | refine SLoad.on 2 rfl ?_ | refine SLoad.on 3 rfl ?_ | refine SLoad.on 4 rfl ?_ | refine SLoad.on 5 rfl ?_ | refine SStore.on 0 rfl ?_ | refine SStore.on 1 rfl ?_ | refine SStore.on 2 rfl ?_ | refine SStore.on 3 rfl ?_ | refine SStore.on 4 rfl ?_ | refine SStore.on 5 rfl ?_ | refine SBox.f ?_ | refine SCall.p (by exact copied_any w0 x hxa hxq) ?_ | fail | refine SApp.c rfl rfl (by first | assumption | exact Moves.more (by assumption) (by assumption) | fail) (by first | (simp only [length_aBytes, List.length_append, List.length_cons, List.length_nil, List.length_map, List.length_range]; omega) | omega | fail) fun tk1 σ1 hm => ?_ | refine SReg.t 0 [] (by decide +kernel) ?_ | refine And.intro (by first | omega | (simp only [List.length_map]; omega)) ?_ | refine ⟨_, ⟨by first | omega | (simp only [List.length_map]; omega), by exact ga⟩, ?_⟩ | refine ⟨_, toBytes_aBytes _, ?_⟩ | refine ⟨_, by repeat (first | exact toB_nil | apply toB_cons | apply toB_consC _ (by first | omega | (simp only [List.length_map]; omega))), ?_⟩ | refine ⟨_, IntWalk.i64_in _ (by first | omega | (simp only [List.length_map]; omega)), ?_⟩ | refine ⟨_, wrap_u8 _, ?_⟩ | refine ⟨_, rfl, ?_⟩ | intro b7 hb7 | fail); (try refine Xc_h ?_); (try (conv => whnf)); repeat (first | refine Hid.seq ?_ | (refine Hid.reg ?_; (conv => whnf)) | refine Hid.regD ?_ | refine Hid.cond rfl ?_ | refine Hid.block ?_ | refine Hid.loop ?_ | (refine Hid.exit ?_; (conv => whnf)) | (refine Hid.ret ?_; (conv => whnf)) | (refine Hid.skip ?_; (conv => whnf)) | (refine Hid.label ?_; (conv => whnf)) | refine Hid.range ?_)))
      exact ⟨i + 1, by omega, by repeat (first | exact trivial | refine ⟨by first | trivial | exact Weak.refl _ | exact Weak.tok _ _ _ | exact Weak.of_eq (congrArg (AV.int _) (by omega)) | exact Weak.of_eq (congrArg AV.bool (by fail)) | exact Weak.nils _ _ (.inr rfl), ?_⟩), .drop (.refl _), hlt, hd, le_new2 hle hb7⟩
  · have hge : i = l.length := by simp at hc; omega
    subst hge
    rw [List.drop_length] at hd
    repeat' (((first | refine SIf.y Ty.mixed (by first | exact rfl | assumption | fail) ?_ | refine SIf.n Ty.mixed (by first | exact rfl | assumption | fail) ?_ | refine SCond.y (by first | exact rfl | assumption | fail) ?_ | refine SCond.n (by first | exact rfl | assumption | fail) ?_ | refine SPick.y (by first | exact rfl | assumption | fail) ?_ | refine SPick.n (by first | exact rfl | assumption | fail) ?_ | refine SPick.b ?_ | refine SPick.i ?_ | fail | refine SLoad.on 0 rfl ?_ | refine SLoad.on 1 rfl ?_ | refine SLoad.on 2 rfl ?_ | refine SLoad.on 3 rfl ?_ | refine SLoad.on 4 rfl ?_ | refine SLoad.on 5 rfl ?_ | refine SStore.on 0 rfl ?_ | refine SStore.on 1 rfl ?_ | refine SStore.on 2 rfl ?_ | refine SStore.on 3 rfl ?_ | refine SStore.on 4 rfl ?_ | refine SStore.on 5 rfl ?_ | refine SBox.f ?_ | refine SCall.p (by exact copied_any w0 x hxa hxq) ?_ | fail | refine SApp.c rfl rfl (by first | assumption | exact Moves.more (by assumption) (by assumption) | fail) (by first | (simp only [length_aBytes, List.length_append, List.length_cons, List.length_nil, List.length_map, List.length_range]; omega) | omega | fail) fun tk1 σ1 hm => ?_ | refine SReg.t 0 [] (by decide +kernel) ?_ | refine And.intro (by first | omega | (simp only [List.length_map]; omega)) ?_ | refine ⟨_, ⟨by first | omega | (simp only [List.length_map]; omega), by exact ga⟩, ?_⟩ | refine ⟨_, toBytes_aBytes _, ?_⟩ | refine ⟨_, by repeat (first | exact toB_nil | apply toB_cons | apply toB_consC _ (by first | omega | (simp only [List.length_map]; omega))), ?_⟩ | refine ⟨_, IntWalk.i64_in _ (by first | omega | (simp only [List.length_map]; omega)), ?_⟩ | refine ⟨_, wrap_u8 _, ?_⟩ | refine ⟨_, rfl, ?_⟩ | intro b7 hb7 | fail); (try refine Xc_h ?_); (try (conv => whnf)); repeat (first | refine Hid.seq ?_ | (refine Hid.reg ?_; (conv => whnf)) | refine Hid.regD ?_ | refine Hid.cond rfl ?_ | refine Hid.block ?_ | refine Hid.loop ?_ | (refine Hid.exit ?_; (conv => whnf)) | (refine Hid.ret ?_; (conv => whnf)) | (refine Hid.skip ?_; (conv => whnf)) | (refine Hid.label ?_; (conv => whnf)) | refine Hid.range ?_)))
    exact .v (le_setBox hle hb4) (by rw [← hd]; exact .tup (.cons weak_sub0 (.cons (.refl _) .nil)))
theorem wo_take {l : List Sub} {i : Nat} {x : Sub} (id : Int) (h : l[i]? = some x) : wo (l.take (i + 1)) id = if x.id = id then wo (l.take i) id else wo (l.take i) id ++ [x] := by
  obtain ⟨hi, e⟩ := List.getElem?_eq_some_iff.1 h
  rw [List.take_succ_eq_append_getElem hi, e, wo, List.filter_append]
  by_cases hx : x.id = id
  · rw [if_pos hx]; simp [wo, hx]
  · rw [if_neg hx]; simp [wo, hx]
theorem eSub_cells (x : Sub) : (eSub x).cells.length = 10 := rfl
def woV (s : Stt) (id : Int) (o : Option (Nat × Nat)) : AV := .agg [.int .i64 s.clock, .int .i64 s.next, .int .i64 s.last, ownV ((wo s.subs id).map eSub).length o]
theorem wo_len (l : List Sub) (id : Int) : (wo l id).length ≤ l.length := List.length_filter_le _ _
def wr (l : List Sub) (id : Int) (i : Nat) : List AV := (wo (l.take i) id).map eSub
theorem wr_all (l : List Sub) (id : Int) : (wo l id).map eSub = wr l id l.length := by rw [wr, List.take_length]
theorem ne_isSome {σ : St} {b c : Nat} (h : (σ.box c).isSome = true) (hb : σ.box b = none) : b ≠ c := by rintro rfl; rw [hb] at h; cases h
theorem without_own (w0 : Base) (s : Stt) (id : Int) (hf : Fine s.subs) (σ : St) : CallW Tryz.prog w0 17 [eStt s, .int .i64 id] σ (fun r τ => ∃ o, r = woV s id o ∧ Grw σ τ ((wo s.subs id).map eSub) 10 o) := by
  refine CallW.h (B := []) Ty.tok Ty.mixed Tryz.func17 rfl Tryz.ntmps17 rfl (by simp) (by decide +kernel) (.nil σ) ?_
  obtain ⟨clock, next, last, l⟩ := s
  unfold woV
  dsimp only at hf ⊢
  (try refine Xc_h ?_); (try (conv => whnf)); repeat (first | refine Hid.seq ?_ | (refine Hid.reg ?_; (conv => whnf)) | refine Hid.regD ?_ | refine Hid.cond rfl ?_ | refine Hid.block ?_ | refine Hid.loop ?_ | (refine Hid.exit ?_; (conv => whnf)) | (refine Hid.ret ?_; (conv => whnf)) | (refine Hid.skip ?_; (conv => whnf)) | (refine Hid.label ?_; (conv => whnf)) | refine Hid.range ?_)
  refine SBox.b rfl ?_
  (try refine Xc_h ?_); (try (conv => whnf)); repeat (first | refine Hid.seq ?_ | (refine Hid.reg ?_; (conv => whnf)) | refine Hid.regD ?_ | refine Hid.cond rfl ?_ | refine Hid.block ?_ | refine Hid.loop ?_ | (refine Hid.exit ?_; (conv => whnf)) | (refine Hid.ret ?_; (conv => whnf)) | (refine Hid.skip ?_; (conv => whnf)) | (refine Hid.label ?_; (conv => whnf)) | refine Hid.range ?_)
  intro b2 hb2
  (try refine Xc_h ?_); (try (conv => whnf)); repeat (first | refine Hid.seq ?_ | (refine Hid.reg ?_; (conv => whnf)) | refine Hid.regD ?_ | refine Hid.cond rfl ?_ | refine Hid.block ?_ | refine Hid.loop ?_ | (refine Hid.exit ?_; (conv => whnf)) | (refine Hid.ret ?_; (conv => whnf)) | (refine Hid.skip ?_; (conv => whnf)) | (refine Hid.label ?_; (conv => whnf)) | refine Hid.range ?_)
  repeat' (((first | refine SIf.y Ty.mixed (by first | exact rfl | assumption | fail) ?_ | refine SIf.n Ty.mixed (by first | exact rfl | assumption | fail) ?_ | refine SCond.y (by first | exact rfl | assumption | fail) ?_ | refine SCond.n (by first | exact rfl | assumption | fail) ?_ | refine SPick.y (by first | exact rfl | assumption | fail) ?_ | refine SPick.n (by first | exact rfl | assumption | fail) ?_ | refine SPick.b ?_ | refine SPick.i ?_ | fail | refine SLoad.on 0 rfl ?_ | refine SLoad.on 1 rfl ?_ | refine SLoad.on 2 rfl ?_ | refine SLoad.on 3 rfl ?_ | refine SLoad.on 4 rfl ?_ | refine SLoad.on 5 rfl ?_ | refine SStore.on 0 rfl ?_ | refine SStore.on 1 rfl ?_ | refine SStore.on 2 rfl ?_ | refine SStore.on 3 rfl ?_ | refine SStore.on 4 rfl ?_ | refine SStore.on 5 rfl ?_ | refine SBox.f ?_ | refine SCall.p (by exact copied_any w0 x hxa hxq) ?_ | fail | refine SApp.c rfl rfl (by first | assumption | exact Moves.more (by assumption) (by assumption) | fail) (by first | (simp only [length_aBytes, List.length_append, List.length_cons, List.length_nil, List.length_map, List.length_range]; omega) | omega | fail) fun tk1 σ1 hm => ?_ | refine SReg.t 0 [] (by decide +kernel) ?_ | refine And.intro (by first | omega | (simp only [List.length_map]; omega)) ?_ | refine ⟨_, ⟨by first | omega | (simp only [List.length_map]; omega), by exact ga⟩, ?_⟩ | refine ⟨_, toBytes_aBytes _, ?_⟩ | refine ⟨_, by repeat (first | exact toB_nil | apply toB_cons | apply toB_consC _ (by first | omega | (simp only [List.length_map]; omega))), ?_⟩ | refine ⟨_, IntWalk.i64_in _ (by first | omega | (simp only [List.length_map]; omega)), ?_⟩ | refine ⟨_, wrap_u8 _, ?_⟩ | refine ⟨_, rfl, ?_⟩ | intro b4 hb4 | fail); (try refine Xc_h ?_); (try (conv => whnf)); repeat (first | refine Hid.seq ?_ | (refine Hid.reg ?_; (conv => whnf)) | refine Hid.regD ?_ | refine Hid.cond rfl ?_ | refine Hid.block ?_ | refine Hid.loop ?_ | (refine Hid.exit ?_; (conv => whnf)) | (refine Hid.ret ?_; (conv => whnf)) | (refine Hid.skip ?_; (conv => whnf)) | (refine Hid.label ?_; (conv => whnf)) | refine Hid.range ?_)))
  have h4 := le_none (le_new (.refl _) hb2) hb4
  have n24 : b4 ≠ b2 := by rintro rfl; rw [setBox_same] at hb4; cases hb4
  refine SLoop.by2 Ty.mixed (fun ((i, o) : Nat × Option (Nat × Nat)) => l.length - i) (fun (i, o) => [(1, .int .i64 id), (2, .ptr b2 0), (4, .ptr b4 0), (5, ownV (wr l id i).length o), (9, eSubs l), (10, .int .i64 l.length), (11, .int .i64 i)]) (fun _ => [(b4, [.int .i64 0, .int .i64 0, .int .i64 0, .nils]), (b2, [.int .i64 clock, .int .i64 next, .int .i64 last, eSubs l])])
    (fun (i, o) τ => i ≤ l.length ∧ (∀ b cap, o = some (b, cap) → b ≠ b2 ∧ b ≠ b4) ∧ Grw σ τ (wr l id i) 10 o) (0, none) ⟨?_, .refl _, Nat.zero_le _, by simp, .nil (le_new (le_new (.refl _) hb2) hb4)⟩ ?_
  · show xWeak [(1, .int .i64 id), (2, .ptr b2 0), (4, .ptr b4 0), (5, .nils), (9, eSubs l), (10, .int .i64 l.length), (11, .int .i64 (0 : Nat))] _
    rw [show l.length = (l.map eSub).length by simp]
    repeat (first | exact trivial | refine ⟨by first | trivial | exact Weak.refl _ | exact Weak.tok _ _ _ | exact Weak.of_eq (congrArg (AV.int _) (by omega)) | exact Weak.of_eq (congrArg AV.bool (by fail)) | exact Weak.nils _ _ (.inr rfl), ?_⟩)
  rintro ⟨i, o⟩ τ ⟨hi, hob, hg⟩ hK
  have hB4 : τ.box b4 = some _ := hK.has _ (List.mem_cons_self ..)
  have hB2 : τ.box b2 = some _ := hK.has _ (List.mem_cons_of_mem _ (List.mem_cons_self ..))
  refine ⟨_, hK, ?_⟩
  have hn := hf.n
  by_cases hlt : i < l.length
  · have ga : (l.map eSub)[i]? = some (eSub l[i]) := by simp [hlt]
    have hxa := hf.a _ (List.getElem_mem hlt)
    have hxq := hf.q _ (List.getElem_mem hlt)
    have hwo := wo_take id (List.getElem?_eq_getElem hlt)
    have hml : (wr l id i).length ≤ 100000000 := by
      have h1 := wo_len (l.take i) id
      have h2 := List.length_take_le i l
      rw [wr, List.length_map]; omega
    have hsz : ∀ y ∈ wr l id i, y.cells.length = 10 := fun y hy => (eSub_sz _ y hy).1
    generalize l[i] = x at *
    have e1 : ¬ x.id = id → wr l id (i + 1) = wr l id i ++ [eSub x] := fun h => by rw [wr, hwo, if_neg h, List.map_append]; rfl
    have e2 : x.id = id → wr l id (i + 1) = wr l id i := fun h => by rw [wr, hwo, if_pos h]; rfl
    cases o with
    | none =>
      (try refine Xc_h ?_); (try (conv => whnf)); repeat (first | refine Hid.seq ?_ | (refine Hid.reg ?_; (conv => whnf)) | refine Hid.regD ?_ | refine Hid.cond rfl ?_ | refine Hid.block ?_ | refine Hid.loop ?_ | (refine Hid.exit ?_; (conv => whnf)) | (refine Hid.ret ?_; (conv => whnf)) | (refine Hid.skip ?_; (conv => whnf)) | (refine Hid.label ?_; (conv => whnf)) | refine Hid.range ?_)
      repeat' (((first | refine SIf.y Ty.mixed (by first | exact rfl | assumption | fail) ?_ | refine SIf.n Ty.mixed (by first | exact rfl | assumption | fail) ?_ | refine SCond.y (by first | exact rfl | assumption | fail) ?_ | refine SCond.n (by first | exact rfl | assumption | fail) ?_ | refine SPick.y (by first | exact rfl | assumption | fail) ?_ | refine SPick.n (by first | exact rfl | assumption | fail) ?_ | refine SPick.b ?_ | refine SPick.i ?_ | fail | refine SLoad.on 0 rfl ?_ | refine SLoad.on 1 rfl ?_ | refine SLoad.on 2 rfl ?_ | refine SLoad.on 3 rfl ?_ | refine SLoad.on 4 rfl ?_ | refine SLoad.on 5 rfl ?_ | refine SStore.on 0 rfl ?_ | refine SStore.on 1 rfl ?_ | refine SStore.on 2 rfl ?_ | refine SStore.on 3 rfl ?_ | refine SStore.on 4 rfl ?_ | refine SStore.on 5 rfl ?_ | refine SBox.f ?_ | refine SCall.p (by exact copied_any w0 x hxa hxq) ?_ | fail | refine SApp.c rfl rfl (by first | assumption | exact Moves.more (by assumption) (by assumption) | fail) (by first | (simp only [length_aBytes, List.length_append, List.length_cons, List.length_nil, List.length_map, List.length_range]; omega) | omega | fail) fun tk1 σ1 hm => ?_ | refine SReg.t 0 [] (by decide +kernel) ?_ | refine And.intro (by first | omega | (simp only [List.length_map]; omega)) ?_ | refine ⟨_, ⟨by first | omega | (simp only [List.length_map]; omega), by exact ga⟩, ?_⟩ | refine ⟨_, toBytes_aBytes _, ?_⟩ | refine ⟨_, by repeat (first | exact toB_nil | apply toB_cons | apply toB_consC _ (by first | omega | (simp only [List.length_map]; omega))), ?_⟩ | refine ⟨_, IntWalk.i64_in _ (by first | omega | (simp only [List.length_map]; omega)), ?_⟩ | refine ⟨_, wrap_u8 _, ?_⟩ | refine ⟨_, rfl, ?_⟩ | intro b4 hb4 | fail); (try refine Xc_h ?_); (try (conv => whnf)); repeat (first | refine Hid.seq ?_ | (refine Hid.reg ?_; (conv => whnf)) | refine Hid.regD ?_ | refine Hid.cond rfl ?_ | refine Hid.block ?_ | refine Hid.loop ?_ | (refine Hid.exit ?_; (conv => whnf)) | (refine Hid.ret ?_; (conv => whnf)) | (refine Hid.skip ?_; (conv => whnf)) | (refine Hid.label ?_; (conv => whnf)) | refine Hid.range ?_)))
      refine SIf.y Ty.mixed (decide_eq_true (by omega)) ?_
      (try refine Xc_h ?_); (try (conv => whnf)); repeat (first | refine Hid.seq ?_ | (refine Hid.reg ?_; (conv => whnf)) | refine Hid.regD ?_ | refine Hid.cond rfl ?_ | refine Hid.block ?_ | refine Hid.loop ?_ | (refine Hid.exit ?_; (conv => whnf)) | (refine Hid.ret ?_; (conv => whnf)) | (refine Hid.skip ?_; (conv => whnf)) | (refine Hid.label ?_; (conv => whnf)) | refine Hid.range ?_)
      repeat' (((first | refine SIf.y Ty.mixed (by first | exact rfl | assumption | fail) ?_ | refine SIf.n Ty.mixed (by first | exact rfl | assumption | fail) ?_ | refine SCond.y (by first | exact rfl | assumption | fail) ?_ | refine SCond.n (by first | exact rfl | assumption | fail) ?_ | refine SPick.y (by first | exact rfl | assumption | fail) ?_ | refine SPick.n (by first | exact rfl | assumption | fail) ?_ | refine SPick.b ?_ | refine SPick.i ?_ | fail | refine SLoad.on 0 rfl ?_ | refine SLoad.on 1 rfl ?_ | refine SLoad.on 2 rfl ?_ | refine SLoad.on 3 rfl ?_ | refine SLoad.on 4 rfl ?_ | refine SLoad.on 5 rfl ?_ | refine SStore.on 0 rfl ?_ | refine SStore.on 1 rfl ?_ | refine SStore.on 2 rfl ?_ | refine SStore.on 3 rfl ?_ | refine SStore.on 4 rfl ?_ | refine SStore.on 5 rfl ?_ | refine SBox.f ?_ | refine SCall.p (by exact copied_any w0 x hxa hxq) ?_ | fail | refine SApp.c rfl rfl (by first | assumption | exact Moves.more (by assumption) (by assumption) | fail) (by first | (simp only [length_aBytes, List.length_append, List.length_cons, List.length_nil, List.length_map, List.length_range]; omega) | omega | fail) fun tk1 σ1 hm => ?_ | refine SReg.t 0 [] (by decide +kernel) ?_ | refine And.intro (by first | omega | (simp only [List.length_map]; omega)) ?_ | refine ⟨_, ⟨by first | omega | (simp only [List.length_map]; omega), by exact ga⟩, ?_⟩ | refine ⟨_, toBytes_aBytes _, ?_⟩ | refine ⟨_, by repeat (first | exact toB_nil | apply toB_cons | apply toB_consC _ (by first | omega | (simp only [List.length_map]; omega))), ?_⟩ | refine ⟨_, IntWalk.i64_in _ (by first | omega | (simp only [List.length_map]; omega)), ?_⟩ | refine ⟨_, wrap_u8 _, ?_⟩ | refine ⟨_, rfl, ?_⟩ | intro b7 hb7 | fail); (try refine Xc_h ?_); (try (conv => whnf)); repeat (first | refine Hid.seq ?_ | (refine Hid.reg ?_; (conv => whnf)) | refine Hid.regD ?_ | refine Hid.cond rfl ?_ | refine Hid.block ?_ | refine Hid.loop ?_ | (refine Hid.exit ?_; (conv => whnf)) | (refine Hid.ret ?_; (conv => whnf)) | (refine Hid.skip ?_; (conv => whnf)) | (refine Hid.label ?_; (conv => whnf)) | refine Hid.range ?_)))
      by_cases he : x.id = id
      · refine SIf.n Ty.mixed (by simp [he]) ?_
        (try refine Xc_h ?_); (try (conv => whnf)); repeat (first | refine Hid.seq ?_ | (refine Hid.reg ?_; (conv => whnf)) | refine Hid.regD ?_ | refine Hid.cond rfl ?_ | refine Hid.block ?_ | refine Hid.loop ?_ | (refine Hid.exit ?_; (conv => whnf)) | (refine Hid.ret ?_; (conv => whnf)) | (refine Hid.skip ?_; (conv => whnf)) | (refine Hid.label ?_; (conv => whnf)) | refine Hid.range ?_)
        repeat' (((first | refine SIf.y Ty.mixed (by first | exact rfl | assumption | fail) ?_ | refine SIf.n Ty.mixed (by first | exact rfl | assumption | fail) ?_ | refine SCond.y (by first | exact rfl | assumption | fail) ?_ | refine SCond.n (by first | exact rfl | assumption | fail) ?_ | refine SPick.y (by first | exact rfl | assumption | fail) ?_ | refine SPick.n (by first | exact rfl | assumption | fail) ?_ | refine SPick.b ?_ | refine SPick.i ?_ | fail | refine SLoad.on 0 rfl ?_ | refine SLoad.on 1 rfl ?_ | refine SLoad.on 2 rfl ?_ | refine SLoad.on 3 rfl ?_ | refine SLoad.on 4 rfl ?_ | refine SLoad.on 5 rfl ?_ | refine SStore.on 0 rfl ?_ | refine SStore.on 1 rfl ?_ | refine SStore.on 2 rfl ?_ | refine SStore.on 3 rfl ?_ | refine SStore.on 4 rfl ?_ | refine SStore.on 5 rfl ?_ | refine SBox.f ?_ | refine SCall.p (by exact copied_any w0 x hxa hxq) ?_ | fail | refine SApp.c rfl rfl (by first | assumption | exact Moves.more (by assumption) (by assumption) | fail) (by first | (simp only [length_aBytes, List.length_append, List.length_cons, List.length_nil, List.length_map, List.length_range]; omega) | omega | fail) fun tk1 σ1 hm => ?_ | refine SReg.t 0 [] (by decide +kernel) ?_ | refine And.intro (by first | omega | (simp only [List.length_map]; omega)) ?_ | refine ⟨_, ⟨by first | omega | (simp only [List.length_map]; omega), by exact ga⟩, ?_⟩ | refine ⟨_, toBytes_aBytes _, ?_⟩ | refine ⟨_, by repeat (first | exact toB_nil | apply toB_cons | apply toB_consC _ (by first | omega | (simp only [List.length_map]; omega))), ?_⟩ | refine ⟨_, IntWalk.i64_in _ (by first | omega | (simp only [List.length_map]; omega)), ?_⟩ | refine ⟨_, wrap_u8 _, ?_⟩ | refine ⟨_, rfl, ?_⟩ | intro b7 hb7 | fail); (try refine Xc_h ?_); (try (conv => whnf)); repeat (first | refine Hid.seq ?_ | (refine Hid.reg ?_; (conv => whnf)) | refine Hid.regD ?_ | refine Hid.cond rfl ?_ | refine Hid.block ?_ | refine Hid.loop ?_ | (refine Hid.exit ?_; (conv => whnf)) | (refine Hid.ret ?_; (conv => whnf)) | (refine Hid.skip ?_; (conv => whnf)) | (refine Hid.label ?_; (conv => whnf)) | refine Hid.range ?_)))
        exact ⟨(i + 1, none), by show l.length - (i + 1) < l.length - i; omega, by show xWeak [(1, .int .i64 id), (2, .ptr b2 0), (4, .ptr b4 0), (5, ownV (wr l id (i + 1)).length (none)), (9, eSubs l), (10, .int .i64 l.length), (11, .int .i64 (i + 1 : Nat))] _; rw [e2 he]; repeat (first | exact trivial | refine ⟨by first | trivial | exact Weak.refl _ | exact Weak.tok _ _ _ | exact Weak.of_eq (congrArg (AV.int _) (by omega)) | exact Weak.of_eq (congrArg AV.bool (by fail)) | exact Weak.nils _ _ (.inr rfl), ?_⟩), .drop (.refl _), hlt, hob, by show Grw σ _ (wr l id (i + 1)) 10 (none); rw [e2 he]; exact hg.other2 hb7⟩
      · refine SIf.y Ty.mixed (by simp [he]) ?_
        have hg2 := hg.other2 (cs := [AV.int .i64 0, .str [], .str [], .str [], .int .i64 0, .int .i64 0, .int .i64 0, .nils, .nils, .str []]) (ds := (eSub x).cells) hb7
        (try refine Xc_h ?_); (try (conv => whnf)); repeat (first | refine Hid.seq ?_ | (refine Hid.reg ?_; (conv => whnf)) | refine Hid.regD ?_ | refine Hid.cond rfl ?_ | refine Hid.block ?_ | refine Hid.loop ?_ | (refine Hid.exit ?_; (conv => whnf)) | (refine Hid.ret ?_; (conv => whnf)) | (refine Hid.skip ?_; (conv => whnf)) | (refine Hid.label ?_; (conv => whnf)) | refine Hid.range ?_)
        repeat' (((first | refine SIf.y Ty.mixed (by first | exact rfl | assumption | fail) ?_ | refine SIf.n Ty.mixed (by first | exact rfl | assumption | fail) ?_ | refine SCond.y (by first | exact rfl | assumption | fail) ?_ | refine SCond.n (by first | exact rfl | assumption | fail) ?_ | refine SPick.y (by first | exact rfl | assumption | fail) ?_ | refine SPick.n (by first | exact rfl | assumption | fail) ?_ | refine SPick.b ?_ | refine SPick.i ?_ | fail | refine SLoad.on 0 rfl ?_ | refine SLoad.on 1 rfl ?_ | refine SLoad.on 2 rfl ?_ | refine SLoad.on 3 rfl ?_ | refine SLoad.on 4 rfl ?_ | refine SLoad.on 5 rfl ?_ | refine SStore.on 0 rfl ?_ | refine SStore.on 1 rfl ?_ | refine SStore.on 2 rfl ?_ | refine SStore.on 3 rfl ?_ | refine SStore.on 4 rfl ?_ | refine SStore.on 5 rfl ?_ | refine SBox.f ?_ | refine SCall.p (by exact copied_any w0 x hxa hxq) ?_ | fail | refine SApp.row rfl hg2.rowN rfl hsz rfl (by omega) (by simp) fun b' cap' σ' q1 q2 q3 q4 => ?_ | refine SReg.t 0 [] (by decide +kernel) ?_ | refine And.intro (by first | omega | (simp only [List.length_map]; omega)) ?_ | refine ⟨_, ⟨by first | omega | (simp only [List.length_map]; omega), by exact ga⟩, ?_⟩ | refine ⟨_, toBytes_aBytes _, ?_⟩ | refine ⟨_, by repeat (first | exact toB_nil | apply toB_cons | apply toB_consC _ (by first | omega | (simp only [List.length_map]; omega))), ?_⟩ | refine ⟨_, IntWalk.i64_in _ (by first | omega | (simp only [List.length_map]; omega)), ?_⟩ | refine ⟨_, wrap_u8 _, ?_⟩ | refine ⟨_, rfl, ?_⟩ | intro b7 hb7 | fail); (try refine Xc_h ?_); (try (conv => whnf)); repeat (first | refine Hid.seq ?_ | (refine Hid.reg ?_; (conv => whnf)) | refine Hid.regD ?_ | refine Hid.cond rfl ?_ | refine Hid.block ?_ | refine Hid.loop ?_ | (refine Hid.exit ?_; (conv => whnf)) | (refine Hid.ret ?_; (conv => whnf)) | (refine Hid.skip ?_; (conv => whnf)) | (refine Hid.label ?_; (conv => whnf)) | refine Hid.range ?_)))
        have hg3 := hg2.step q1 q2 q3 q4
        have k2 : b' ≠ b2 ∧ b' ≠ b4 := by
          rcases q2 with q2 | q2
          · cases q2
          · rw [setBox_setBox] at q2
            exact ⟨ne_isSome (by rw [setBox_ne (by rintro rfl; rw [hb7] at hB2; cases hB2), hB2]; rfl) q2, ne_isSome (by rw [setBox_ne (by rintro rfl; rw [hb7] at hB4; cases hB4), hB4]; rfl) q2⟩
        exact ⟨(i + 1, some (b', cap')), by show l.length - (i + 1) < l.length - i; omega, by show xWeak [(1, .int .i64 id), (2, .ptr b2 0), (4, .ptr b4 0), (5, .msl b' 0 (wr l id (i + 1)).length cap'), (9, eSubs l), (10, .int .i64 l.length), (11, .int .i64 (i + 1 : Nat))] _; rw [e1 he, List.length_append]; repeat (first | exact trivial | refine ⟨by first | trivial | exact Weak.refl _ | exact Weak.tok _ _ _ | exact Weak.of_eq (congrArg (AV.int _) (by omega)) | exact Weak.of_eq (congrArg AV.bool (by fail)) | exact Weak.nils _ _ (.inr rfl), ?_⟩), .drop (.refl _), hlt, fun b cap e => by cases e; exact k2, by show Grw σ _ (wr l id (i + 1)) 10 (some (b', cap')); rw [e1 he]; exact hg3⟩
    | some p =>
      obtain ⟨b0, c0⟩ := p
      obtain ⟨k0, k1⟩ := hob b0 c0 rfl
      (try refine Xc_h ?_); (try (conv => whnf)); repeat (first | refine Hid.seq ?_ | (refine Hid.reg ?_; (conv => whnf)) | refine Hid.regD ?_ | refine Hid.cond rfl ?_ | refine Hid.block ?_ | refine Hid.loop ?_ | (refine Hid.exit ?_; (conv => whnf)) | (refine Hid.ret ?_; (conv => whnf)) | (refine Hid.skip ?_; (conv => whnf)) | (refine Hid.label ?_; (conv => whnf)) | refine Hid.range ?_)
      repeat' (((first | refine SIf.y Ty.mixed (by first | exact rfl | assumption | fail) ?_ | refine SIf.n Ty.mixed (by first | exact rfl | assumption | fail) ?_ | refine SCond.y (by first | exact rfl | assumption | fail) ?_ | refine SCond.n (by first | exact rfl | assumption | fail) ?_ | refine SPick.y (by first | exact rfl | assumption | fail) ?_ | refine SPick.n (by first | exact rfl | assumption | fail) ?_ | refine SPick.b ?_ | refine SPick.i ?_ | fail | refine SLoad.on 0 rfl ?_ | refine SLoad.on 1 rfl ?_ | refine SLoad.on 2 rfl ?_ | refine SLoad.on 3 rfl ?_ | refine SLoad.on 4 rfl ?_ | refine SLoad.on 5 rfl ?_ | refine SStore.on 0 rfl ?_ | refine SStore.on 1 rfl ?_ | refine SStore.on 2 rfl ?_ | refine SStore.on 3 rfl ?_ | refine SStore.on 4 rfl ?_ | refine SStore.on 5 rfl ?_ | refine SBox.f ?_ | refine SCall.p (by exact copied_any w0 x hxa hxq) ?_ | fail | refine SApp.row rfl hg2.rowN rfl hsz rfl (by omega) (by simp) fun b' cap' σ' q1 q2 q3 q4 => ?_ | refine SReg.t 0 [] (by decide +kernel) ?_ | refine And.intro (by first | omega | (simp only [List.length_map]; omega)) ?_ | refine ⟨_, ⟨by first | omega | (simp only [List.length_map]; omega), by exact ga⟩, ?_⟩ | refine ⟨_, toBytes_aBytes _, ?_⟩ | refine ⟨_, by repeat (first | exact toB_nil | apply toB_cons | apply toB_consC _ (by first | omega | (simp only [List.length_map]; omega))), ?_⟩ | refine ⟨_, IntWalk.i64_in _ (by first | omega | (simp only [List.length_map]; omega)), ?_⟩ | refine ⟨_, wrap_u8 _, ?_⟩ | refine ⟨_, rfl, ?_⟩ | intro b7 hb7 | fail); (try refine Xc_h ?_); (try (conv => whnf)); repeat (first | refine Hid.seq ?_ | (refine Hid.reg ?_; (conv => whnf)) | refine Hid.regD ?_ | refine Hid.cond rfl ?_ | refine Hid.block ?_ | refine Hid.loop ?_ | (refine Hid.exit ?_; (conv => whnf)) | (refine Hid.ret ?_; (conv => whnf)) | (refine Hid.skip ?_; (conv => whnf)) | (refine Hid.label ?_; (conv => whnf)) | refine Hid.range ?_)))
      refine SIf.y Ty.mixed (decide_eq_true (by omega)) ?_
      (try refine Xc_h ?_); (try (conv => whnf)); repeat (first | refine Hid.seq ?_ | (refine Hid.reg ?_; (conv => whnf)) | refine Hid.regD ?_ | refine Hid.cond rfl ?_ | refine Hid.block ?_ | refine Hid.loop ?_ | (refine Hid.exit ?_; (conv => whnf)) | (refine Hid.ret ?_; (conv => whnf)) | (refine Hid.skip ?_; (conv => whnf)) | (refine Hid.label ?_; (conv => whnf)) | refine Hid.range ?_)
      repeat' (((first | refine SIf.y Ty.mixed (by first | exact rfl | assumption | fail) ?_ | refine SIf.n Ty.mixed (by first | exact rfl | assumption | fail) ?_ | refine SCond.y (by first | exact rfl | assumption | fail) ?_ | refine SCond.n (by first | exact rfl | assumption | fail) ?_ | refine SPick.y (by first | exact rfl | assumption | fail) ?_ | refine SPick.n (by first | exact rfl | assumption | fail) ?_ | refine SPick.b ?_ | refine SPick.i ?_ | fail | refine SLoad.on 0 rfl ?_ | refine SLoad.on 1 rfl ?_ | refine SLoad.on 2 rfl ?_ | refine SLoad.on 3 rfl ?_ | refine SLoad.on 4 rfl ?_ | refine SLoad.on 5 rfl ?_ | refine SStore.on 0 rfl ?_ | refine SStore.on 1 rfl ?_ | refine SStore.on 2 rfl ?_ | refine SStore.on 3 rfl ?_ | refine SStore.on 4 rfl ?_ | refine SStore.on 5 rfl ?_ | refine SBox.f ?_ | refine SCall.p (by exact copied_any w0 x hxa hxq) ?_ | fail | refine SApp.row rfl hg2.rowN rfl hsz rfl (by omega) (by simp) fun b' cap' σ' q1 q2 q3 q4 => ?_ | refine SReg.t 0 [] (by decide +kernel) ?_ | refine And.intro (by first | omega | (simp only [List.length_map]; omega)) ?_ | refine ⟨_, ⟨by first | omega | (simp only [List.length_map]; omega), by exact ga⟩, ?_⟩ | refine ⟨_, toBytes_aBytes _, ?_⟩ | refine ⟨_, by repeat (first | exact toB_nil | apply toB_cons | apply toB_consC _ (by first | omega | (simp only [List.length_map]; omega))), ?_⟩ | refine ⟨_, IntWalk.i64_in _ (by first | omega | (simp only [List.length_map]; omega)), ?_⟩ | refine ⟨_, wrap_u8 _, ?_⟩ | refine ⟨_, rfl, ?_⟩ | intro b7 hb7 | fail); (try refine Xc_h ?_); (try (conv => whnf)); repeat (first | refine Hid.seq ?_ | (refine Hid.reg ?_; (conv => whnf)) | refine Hid.regD ?_ | refine Hid.cond rfl ?_ | refine Hid.block ?_ | refine Hid.loop ?_ | (refine Hid.exit ?_; (conv => whnf)) | (refine Hid.ret ?_; (conv => whnf)) | (refine Hid.skip ?_; (conv => whnf)) | (refine Hid.label ?_; (conv => whnf)) | refine Hid.range ?_)))
      by_cases he : x.id = id
      · refine SIf.n Ty.mixed (by simp [he]) ?_
        (try refine Xc_h ?_); (try (conv => whnf)); repeat (first | refine Hid.seq ?_ | (refine Hid.reg ?_; (conv => whnf)) | refine Hid.regD ?_ | refine Hid.cond rfl ?_ | refine Hid.block ?_ | refine Hid.loop ?_ | (refine Hid.exit ?_; (conv => whnf)) | (refine Hid.ret ?_; (conv => whnf)) | (refine Hid.skip ?_; (conv => whnf)) | (refine Hid.label ?_; (conv => whnf)) | refine Hid.range ?_)
        repeat' (((first | refine SIf.y Ty.mixed (by first | exact rfl | assumption | fail) ?_ | refine SIf.n Ty.mixed (by first | exact rfl | assumption | fail) ?_ | refine SCond.y (by first | exact rfl | assumption | fail) ?_ | refine SCond.n (by first | exact rfl | assumption | fail) ?_ | refine SPick.y (by first | exact rfl | assumption | fail) ?_ | refine SPick.n (by first | exact rfl | assumption | fail) ?_ | refine SPick.b ?_ | refine SPick.i ?_ | fail | refine SLoad.on 0 rfl ?_ | refine SLoad.on 1 rfl ?_ | refine SLoad.on 2 rfl ?_ | refine SLoad.on 3 rfl ?_ | refine SLoad.on 4 rfl ?_ | refine SLoad.on 5 rfl ?_ | refine SStore.on 0 rfl ?_ | refine SStore.on 1 rfl ?_ | refine SStore.on 2 rfl ?_ | refine SStore.on 3 rfl ?_ | refine SStore.on 4 rfl ?_ | refine SStore.on 5 rfl ?_ | refine SBox.f ?_ | refine SCall.p (by exact copied_any w0 x hxa hxq) ?_ | fail | refine SApp.row rfl hg2.rowN rfl hsz rfl (by omega) (by simp) fun b' cap' σ' q1 q2 q3 q4 => ?_ | refine SReg.t 0 [] (by decide +kernel) ?_ | refine And.intro (by first | omega | (simp only [List.length_map]; omega)) ?_ | refine ⟨_, ⟨by first | omega | (simp only [List.length_map]; omega), by exact ga⟩, ?_⟩ | refine ⟨_, toBytes_aBytes _, ?_⟩ | refine ⟨_, by repeat (first | exact toB_nil | apply toB_cons | apply toB_consC _ (by first | omega | (simp only [List.length_map]; omega))), ?_⟩ | refine ⟨_, IntWalk.i64_in _ (by first | omega | (simp only [List.length_map]; omega)), ?_⟩ | refine ⟨_, wrap_u8 _, ?_⟩ | refine ⟨_, rfl, ?_⟩ | intro b7 hb7 | fail); (try refine Xc_h ?_); (try (conv => whnf)); repeat (first | refine Hid.seq ?_ | (refine Hid.reg ?_; (conv => whnf)) | refine Hid.regD ?_ | refine Hid.cond rfl ?_ | refine Hid.block ?_ | refine Hid.loop ?_ | (refine Hid.exit ?_; (conv => whnf)) | (refine Hid.ret ?_; (conv => whnf)) | (refine Hid.skip ?_; (conv => whnf)) | (refine Hid.label ?_; (conv => whnf)) | refine Hid.range ?_)))
        exact ⟨(i + 1, some (b0, c0)), by show l.length - (i + 1) < l.length - i; omega, by show xWeak [(1, .int .i64 id), (2, .ptr b2 0), (4, .ptr b4 0), (5, ownV (wr l id (i + 1)).length (some (b0, c0))), (9, eSubs l), (10, .int .i64 l.length), (11, .int .i64 (i + 1 : Nat))] _; rw [e2 he]; repeat (first | exact trivial | refine ⟨by first | trivial | exact Weak.refl _ | exact Weak.tok _ _ _ | exact Weak.of_eq (congrArg (AV.int _) (by omega)) | exact Weak.of_eq (congrArg AV.bool (by fail)) | exact Weak.nils _ _ (.inr rfl), ?_⟩), .drop (.refl _), hlt, hob, by show Grw σ _ (wr l id (i + 1)) 10 (some (b0, c0)); rw [e2 he]; exact hg.other2 hb7⟩
      · refine SIf.y Ty.mixed (by simp [he]) ?_
        have hg2 := hg.other2 (cs := [AV.int .i64 0, .str [], .str [], .str [], .int .i64 0, .int .i64 0, .int .i64 0, .nils, .nils, .str []]) (ds := (eSub x).cells) hb7
        (try refine Xc_h ?_); (try (conv => whnf)); repeat (first | refine Hid.seq ?_ | (refine Hid.reg ?_; (conv => whnf)) | refine Hid.regD ?_ | refine Hid.cond rfl ?_ | refine Hid.block ?_ | refine Hid.loop ?_ | (refine Hid.exit ?_; (conv => whnf)) | (refine Hid.ret ?_; (conv => whnf)) | (refine Hid.skip ?_; (conv => whnf)) | (refine Hid.label ?_; (conv => whnf)) | refine Hid.range ?_)
        repeat' (((first | refine SIf.y Ty.mixed (by first | exact rfl | assumption | fail) ?_ | refine SIf.n Ty.mixed (by first | exact rfl | assumption | fail) ?_ | refine SCond.y (by first | exact rfl | assumption | fail) ?_ | refine SCond.n (by first | exact rfl | assumption | fail) ?_ | refine SPick.y (by first | exact rfl | assumption | fail) ?_ | refine SPick.n (by first | exact rfl | assumption | fail) ?_ | refine SPick.b ?_ | refine SPick.i ?_ | fail | refine SLoad.on 0 rfl ?_ | refine SLoad.on 1 rfl ?_ | refine SLoad.on 2 rfl ?_ | refine SLoad.on 3 rfl ?_ | refine SLoad.on 4 rfl ?_ | refine SLoad.on 5 rfl ?_ | refine SStore.on 0 rfl ?_ | refine SStore.on 1 rfl ?_ | refine SStore.on 2 rfl ?_ | refine SStore.on 3 rfl ?_ | refine SStore.on 4 rfl ?_ | refine SStore.on 5 rfl ?_ | refine SBox.f ?_ | refine SCall.p (by exact copied_any w0 x hxa hxq) ?_ | fail | refine SApp.row rfl hg2.rowS rfl hsz rfl (by omega) (by simp only [List.mem_cons, List.not_mem_nil, or_false, forall_eq_or_imp, forall_eq]; exact ⟨fun e => (Grw.ne_new hg hb7) (Option.some.inj e), fun e => k1 (Option.some.inj e), fun e => k0 (Option.some.inj e)⟩) fun b' cap' σ' q1 q2 q3 q4 => ?_ | refine SReg.t 0 [] (by decide +kernel) ?_ | refine And.intro (by first | omega | (simp only [List.length_map]; omega)) ?_ | refine ⟨_, ⟨by first | omega | (simp only [List.length_map]; omega), by exact ga⟩, ?_⟩ | refine ⟨_, toBytes_aBytes _, ?_⟩ | refine ⟨_, by repeat (first | exact toB_nil | apply toB_cons | apply toB_consC _ (by first | omega | (simp only [List.length_map]; omega))), ?_⟩ | refine ⟨_, IntWalk.i64_in _ (by first | omega | (simp only [List.length_map]; omega)), ?_⟩ | refine ⟨_, wrap_u8 _, ?_⟩ | refine ⟨_, rfl, ?_⟩ | intro b7 hb7 | fail); (try refine Xc_h ?_); (try (conv => whnf)); repeat (first | refine Hid.seq ?_ | (refine Hid.reg ?_; (conv => whnf)) | refine Hid.regD ?_ | refine Hid.cond rfl ?_ | refine Hid.block ?_ | refine Hid.loop ?_ | (refine Hid.exit ?_; (conv => whnf)) | (refine Hid.ret ?_; (conv => whnf)) | (refine Hid.skip ?_; (conv => whnf)) | (refine Hid.label ?_; (conv => whnf)) | refine Hid.range ?_)))
        have hg3 := hg2.step q1 q2 q3 q4
        have k2 : b' ≠ b2 ∧ b' ≠ b4 := by
          rcases q2 with q2 | q2
          · cases q2; exact ⟨k0, k1⟩
          · rw [setBox_setBox] at q2
            exact ⟨ne_isSome (by rw [setBox_ne (by rintro rfl; rw [hb7] at hB2; cases hB2), hB2]; rfl) q2, ne_isSome (by rw [setBox_ne (by rintro rfl; rw [hb7] at hB4; cases hB4), hB4]; rfl) q2⟩
        exact ⟨(i + 1, some (b', cap')), by show l.length - (i + 1) < l.length - i; omega, by show xWeak [(1, .int .i64 id), (2, .ptr b2 0), (4, .ptr b4 0), (5, .msl b' 0 (wr l id (i + 1)).length cap'), (9, eSubs l), (10, .int .i64 l.length), (11, .int .i64 (i + 1 : Nat))] _; rw [e1 he, List.length_append]; repeat (first | exact trivial | refine ⟨by first | trivial | exact Weak.refl _ | exact Weak.tok _ _ _ | exact Weak.of_eq (congrArg (AV.int _) (by omega)) | exact Weak.of_eq (congrArg AV.bool (by fail)) | exact Weak.nils _ _ (.inr rfl), ?_⟩), .drop (.refl _), hlt, fun b cap e => by cases e; exact k2, by show Grw σ _ (wr l id (i + 1)) 10 (some (b', cap')); rw [e1 he]; exact hg3⟩
  · have hge : i = l.length := by omega
    subst hge
    cases o with
    | none =>
      (try refine Xc_h ?_); (try (conv => whnf)); repeat (first | refine Hid.seq ?_ | (refine Hid.reg ?_; (conv => whnf)) | refine Hid.regD ?_ | refine Hid.cond rfl ?_ | refine Hid.block ?_ | refine Hid.loop ?_ | (refine Hid.exit ?_; (conv => whnf)) | (refine Hid.ret ?_; (conv => whnf)) | (refine Hid.skip ?_; (conv => whnf)) | (refine Hid.label ?_; (conv => whnf)) | refine Hid.range ?_)
      repeat' (((first | refine SIf.y Ty.mixed (by first | exact rfl | assumption | fail) ?_ | refine SIf.n Ty.mixed (by first | exact rfl | assumption | fail) ?_ | refine SCond.y (by first | exact rfl | assumption | fail) ?_ | refine SCond.n (by first | exact rfl | assumption | fail) ?_ | refine SPick.y (by first | exact rfl | assumption | fail) ?_ | refine SPick.n (by first | exact rfl | assumption | fail) ?_ | refine SPick.b ?_ | refine SPick.i ?_ | fail | refine SLoad.on 0 rfl ?_ | refine SLoad.on 1 rfl ?_ | refine SLoad.on 2 rfl ?_ | refine SLoad.on 3 rfl ?_ | refine SLoad.on 4 rfl ?_ | refine SLoad.on 5 rfl ?_ | refine SStore.on 0 rfl ?_ | refine SStore.on 1 rfl ?_ | refine SStore.on 2 rfl ?_ | refine SStore.on 3 rfl ?_ | refine SStore.on 4 rfl ?_ | refine SStore.on 5 rfl ?_ | refine SBox.f ?_ | refine SCall.p (by exact copied_any w0 x hxa hxq) ?_ | fail | refine SApp.row rfl hg2.rowS rfl hsz rfl (by omega) (by simp only [List.mem_cons, List.not_mem_nil, or_false, forall_eq_or_imp, forall_eq]; exact ⟨fun e => (Grw.ne_new hg hb7) (Option.some.inj e), fun e => k1 (Option.some.inj e), fun e => k0 (Option.some.inj e)⟩) fun b' cap' σ' q1 q2 q3 q4 => ?_ | refine SReg.t 0 [] (by decide +kernel) ?_ | refine And.intro (by first | omega | (simp only [List.length_map]; omega)) ?_ | refine ⟨_, ⟨by first | omega | (simp only [List.length_map]; omega), by exact ga⟩, ?_⟩ | refine ⟨_, toBytes_aBytes _, ?_⟩ | refine ⟨_, by repeat (first | exact toB_nil | apply toB_cons | apply toB_consC _ (by first | omega | (simp only [List.length_map]; omega))), ?_⟩ | refine ⟨_, IntWalk.i64_in _ (by first | omega | (simp only [List.length_map]; omega)), ?_⟩ | refine ⟨_, wrap_u8 _, ?_⟩ | refine ⟨_, rfl, ?_⟩ | intro b7 hb7 | fail); (try refine Xc_h ?_); (try (conv => whnf)); repeat (first | refine Hid.seq ?_ | (refine Hid.reg ?_; (conv => whnf)) | refine Hid.regD ?_ | refine Hid.cond rfl ?_ | refine Hid.block ?_ | refine Hid.loop ?_ | (refine Hid.exit ?_; (conv => whnf)) | (refine Hid.ret ?_; (conv => whnf)) | (refine Hid.skip ?_; (conv => whnf)) | (refine Hid.label ?_; (conv => whnf)) | refine Hid.range ?_)))
      refine SIf.n Ty.mixed (decide_eq_false (by omega)) ?_
      (try refine Xc_h ?_); (try (conv => whnf)); repeat (first | refine Hid.seq ?_ | (refine Hid.reg ?_; (conv => whnf)) | refine Hid.regD ?_ | refine Hid.cond rfl ?_ | refine Hid.block ?_ | refine Hid.loop ?_ | (refine Hid.exit ?_; (conv => whnf)) | (refine Hid.ret ?_; (conv => whnf)) | (refine Hid.skip ?_; (conv => whnf)) | (refine Hid.label ?_; (conv => whnf)) | refine Hid.range ?_)
      repeat' (((first | refine SIf.y Ty.mixed (by first | exact rfl | assumption | fail) ?_ | refine SIf.n Ty.mixed (by first | exact rfl | assumption | fail) ?_ | refine SCond.y (by first | exact rfl | assumption | fail) ?_ | refine SCond.n (by first | exact rfl | assumption | fail) ?_ | refine SPick.y (by first | exact rfl | assumption | fail) ?_ | refine SPick.n (by first | exact rfl | assumption | fail) ?_ | refine SPick.b ?_ | refine SPick.i ?_ | fail | refine SLoad.on 0 rfl ?_ | refine SLoad.on 1 rfl ?_ | refine SLoad.on 2 rfl ?_ | refine SLoad.on 3 rfl ?_ | refine SLoad.on 4 rfl ?_ | refine SLoad.on 5 rfl ?_ | refine SStore.on 0 rfl ?_ | refine SStore.on 1 rfl ?_ | refine SStore.on 2 rfl ?_ | refine SStore.on 3 rfl ?_ | refine SStore.on 4 rfl ?_ | refine SStore.on 5 rfl ?_ | refine SBox.f ?_ | refine SCall.p (by exact copied_any w0 x hxa hxq) ?_ | fail | refine SApp.row rfl hg2.rowS rfl hsz rfl (by omega) (by simp only [List.mem_cons, List.not_mem_nil, or_false, forall_eq_or_imp, forall_eq]; exact ⟨fun e => (Grw.ne_new hg hb7) (Option.some.inj e), fun e => k1 (Option.some.inj e), fun e => k0 (Option.some.inj e)⟩) fun b' cap' σ' q1 q2 q3 q4 => ?_ | refine SReg.t 0 [] (by decide +kernel) ?_ | refine And.intro (by first | omega | (simp only [List.length_map]; omega)) ?_ | refine ⟨_, ⟨by first | omega | (simp only [List.length_map]; omega), by exact ga⟩, ?_⟩ | refine ⟨_, toBytes_aBytes _, ?_⟩ | refine ⟨_, by repeat (first | exact toB_nil | apply toB_cons | apply toB_consC _ (by first | omega | (simp only [List.length_map]; omega))), ?_⟩ | refine ⟨_, IntWalk.i64_in _ (by first | omega | (simp only [List.length_map]; omega)), ?_⟩ | refine ⟨_, wrap_u8 _, ?_⟩ | refine ⟨_, rfl, ?_⟩ | intro b7 hb7 | fail); (try refine Xc_h ?_); (try (conv => whnf)); repeat (first | refine Hid.seq ?_ | (refine Hid.reg ?_; (conv => whnf)) | refine Hid.regD ?_ | refine Hid.cond rfl ?_ | refine Hid.block ?_ | refine Hid.loop ?_ | (refine Hid.exit ?_; (conv => whnf)) | (refine Hid.ret ?_; (conv => whnf)) | (refine Hid.skip ?_; (conv => whnf)) | (refine Hid.label ?_; (conv => whnf)) | refine Hid.range ?_)))
      exact .w ⟨none, by rw [wr_all]; rfl, by rw [wr_all]; exact (hg.keeps hb2 fun b cap e => (hob b cap e).1).keeps h4 fun b cap e => (hob b cap e).2⟩
    | some p =>
      obtain ⟨b0, c0⟩ := p
      (try refine Xc_h ?_); (try (conv => whnf)); repeat (first | refine Hid.seq ?_ | (refine Hid.reg ?_; (conv => whnf)) | refine Hid.regD ?_ | refine Hid.cond rfl ?_ | refine Hid.block ?_ | refine Hid.loop ?_ | (refine Hid.exit ?_; (conv => whnf)) | (refine Hid.ret ?_; (conv => whnf)) | (refine Hid.skip ?_; (conv => whnf)) | (refine Hid.label ?_; (conv => whnf)) | refine Hid.range ?_)
      repeat' (((first | refine SIf.y Ty.mixed (by first | exact rfl | assumption | fail) ?_ | refine SIf.n Ty.mixed (by first | exact rfl | assumption | fail) ?_ | refine SCond.y (by first | exact rfl | assumption | fail) ?_ | refine SCond.n (by first | exact rfl | assumption | fail) ?_ | refine SPick.y (by first | exact rfl | assumption | fail) ?_ | refine SPick.n (by first | exact rfl | assumption | fail) ?_ | refine SPick.b ?_ | refine SPick.i ?_ | fail | refine SLoad.on 0 rfl ?_ | refine SLoad.on 1 rfl ?_ | refine SLoad.on 2 rfl ?_ | refine SLoad.on 3 rfl ?_ | refine SLoad.on 4 rfl ?_ | refine SLoad.on 5 rfl ?_ | refine SStore.on 0 rfl ?_ | refine SStore.on 1 rfl ?_ | refine SStore.on 2 rfl ?_ | refine SStore.on 3 rfl ?_ | refine SStore.on 4 rfl ?_ | refine SStore.on 5 rfl ?_ | refine SBox.f ?_ | refine SCall.p (by exact copied_any w0 x hxa hxq) ?_ | fail | refine SApp.row rfl hg2.rowS rfl hsz rfl (by omega) (by simp only [List.mem_cons, List.not_mem_nil, or_false, forall_eq_or_imp, forall_eq]; exact ⟨fun e => (Grw.ne_new hg hb7) (Option.some.inj e), fun e => k1 (Option.some.inj e), fun e => k0 (Option.some.inj e)⟩) fun b' cap' σ' q1 q2 q3 q4 => ?_ | refine SReg.t 0 [] (by decide +kernel) ?_ | refine And.intro (by first | omega | (simp only [List.length_map]; omega)) ?_ | refine ⟨_, ⟨by first | omega | (simp only [List.length_map]; omega), by exact ga⟩, ?_⟩ | refine ⟨_, toBytes_aBytes _, ?_⟩ | refine ⟨_, by repeat (first | exact toB_nil | apply toB_cons | apply toB_consC _ (by first | omega | (simp only [List.length_map]; omega))), ?_⟩ | refine ⟨_, IntWalk.i64_in _ (by first | omega | (simp only [List.length_map]; omega)), ?_⟩ | refine ⟨_, wrap_u8 _, ?_⟩ | refine ⟨_, rfl, ?_⟩ | intro b7 hb7 | fail); (try refine Xc_h ?_); (try (conv => whnf)); repeat (first | refine Hid.seq ?_ | (refine Hid.reg ?_; (conv => whnf)) | refine Hid.regD ?_ | refine Hid.cond rfl ?_ | refine Hid.block ?_ | refine Hid.loop ?_ | (refine Hid.exit ?_; (conv => whnf)) | (refine Hid.ret ?_; (conv => whnf)) | (refine Hid.skip ?_; (conv => whnf)) | (refine Hid.label ?_; (conv => whnf)) | refine Hid.range ?_)))
      refine SIf.n Ty.mixed (decide_eq_false (by omega)) ?_
      (try refine Xc_h ?_); (try (conv => whnf)); repeat (first | refine Hid.seq ?_ | (refine Hid.reg ?_; (conv => whnf)) | refine Hid.regD ?_ | refine Hid.cond rfl ?_ | refine Hid.block ?_ | refine Hid.loop ?_ | (refine Hid.exit ?_; (conv => whnf)) | (refine Hid.ret ?_; (conv => whnf)) | (refine Hid.skip ?_; (conv => whnf)) | (refine Hid.label ?_; (conv => whnf)) | refine Hid.range ?_)
      repeat' (((first | refine SIf.y Ty.mixed (by first | exact rfl | assumption | fail) ?_ | refine SIf.n Ty.mixed (by first | exact rfl | assumption | fail) ?_ | refine SCond.y (by first | exact rfl | assumption | fail) ?_ | refine SCond.n (by first | exact rfl | assumption | fail) ?_ | refine SPick.y (by first | exact rfl | assumption | fail) ?_ | refine SPick.n (by first | exact rfl | assumption | fail) ?_ | refine SPick.b ?_ | refine SPick.i ?_ | fail | refine SLoad.on 0 rfl ?_ | refine SLoad.on 1 rfl ?_ | refine SLoad.on 2 rfl ?_ | refine SLoad.on 3 rfl ?_ | refine SLoad.on 4 rfl ?_ | refine SLoad.on 5 rfl ?_ | refine SStore.on 0 rfl ?_ | refine SStore.on 1 rfl ?_ | refine SStore.on 2 rfl ?_ | refine SStore.on 3 rfl ?_ | refine SStore.on 4 rfl ?_ | refine SStore.on 5 rfl ?_ | refine SBox.f ?_ | refine SCall.p (by exact copied_any w0 x hxa hxq) ?_ | fail | refine SApp.row rfl hg2.rowS rfl hsz rfl (by omega) (by simp only [List.mem_cons, List.not_mem_nil, or_false, forall_eq_or_imp, forall_eq]; exact ⟨fun e => (Grw.ne_new hg hb7) (Option.some.inj e), fun e => k1 (Option.some.inj e), fun e => k0 (Option.some.inj e)⟩) fun b' cap' σ' q1 q2 q3 q4 => ?_ | refine SReg.t 0 [] (by decide +kernel) ?_ | refine And.intro (by first | omega | (simp only [List.length_map]; omega)) ?_ | refine ⟨_, ⟨by first | omega | (simp only [List.length_map]; omega), by exact ga⟩, ?_⟩ | refine ⟨_, toBytes_aBytes _, ?_⟩ | refine ⟨_, by repeat (first | exact toB_nil | apply toB_cons | apply toB_consC _ (by first | omega | (simp only [List.length_map]; omega))), ?_⟩ | refine ⟨_, IntWalk.i64_in _ (by first | omega | (simp only [List.length_map]; omega)), ?_⟩ | refine ⟨_, wrap_u8 _, ?_⟩ | refine ⟨_, rfl, ?_⟩ | intro b7 hb7 | fail); (try refine Xc_h ?_); (try (conv => whnf)); repeat (first | refine Hid.seq ?_ | (refine Hid.reg ?_; (conv => whnf)) | refine Hid.regD ?_ | refine Hid.cond rfl ?_ | refine Hid.block ?_ | refine Hid.loop ?_ | (refine Hid.exit ?_; (conv => whnf)) | (refine Hid.ret ?_; (conv => whnf)) | (refine Hid.skip ?_; (conv => whnf)) | (refine Hid.label ?_; (conv => whnf)) | refine Hid.range ?_)))
      exact .w ⟨some (b0, c0), by rw [wr_all]; rfl, by rw [wr_all]; exact (hg.keeps hb2 fun b cap e => (hob b cap e).1).keeps h4 fun b cap e => (hob b cap e).2⟩
end Go.Proofs.YtgliemhhnkhboaaGreatDoor
end
section
set_option linter.unusedVariables false
set_option linter.unusedSimpArgs false
set_option maxRecDepth 100000
set_option maxHeartbeats 2000000
namespace Go.Proofs.YtgliemhhnkhboaaGreatDoor
open Go.Al Go.RowKit
theorem putFn_any (w0 : Base) (y x : Sub) : CallP Tryz.prog w0 30 [eSub y, .vp (eSub x)] (.bool (decide (x.id < y.id))) := by
  refine CallP.h Ty.tok Ty.mixed Tryz.func30 rfl Tryz.ntmps30 rfl (by simp) (by decide +kernel) fun σ => ?_
  (conv => whnf); refine Hid.seq ?_; refine Hid.reg ?_; (conv => whnf); refine SBox.f ?_; (conv => whnf); refine Hid.seq ?_; refine Hid.reg ?_; (conv => whnf); refine Hid.ret ?_; (conv => whnf); exact .p (.refl _) rfl
def idxS (id : Int) : List Sub → Nat → Int
  | [], _ => -1
  | y :: l, k => if id < y.id then k else idxS id l (k + 1)
theorem idxS_cases (id : Int) : ∀ (l : List Sub) (k : Nat), (idxS id l k = -1 ∧ upto l id = l ∧ beyond l id = []) ∨ ∃ i, i < l.length ∧ idxS id l k = ((k + i : Nat) : Int) ∧ upto l id = l.take i ∧ beyond l id = l.drop i
  | [], k => .inl ⟨rfl, rfl, rfl⟩
  | y :: l, k => by
    by_cases h : id < y.id
    · exact .inr ⟨0, by simp, by simp [idxS, h], by simp [upto, h], by simp [beyond, h]⟩
    · rcases idxS_cases id l (k + 1) with ⟨h1, h2, h3⟩ | ⟨i, h1, h2, h3, h4⟩
      · exact .inl ⟨by simp [idxS, h, h1], by simp only [upto] at h2; simp [upto, h, h2], by simp only [beyond] at h3; simp [beyond, h, h3]⟩
      · exact .inr ⟨i + 1, by simp; omega, by rw [idxS, if_neg h, h2]; congr 1; omega, by simp only [upto] at h3; simp [upto, h, h3], by simp only [beyond] at h4; simp [beyond, h, h4]⟩
def sc (l : List Sub) : List AV := (l.map eSub).flatMap AV.cells
theorem sc_len (l : List Sub) : (sc l).length = l.length * 10 := by
  rw [sc, flat_len fun x hx => (eSub_sz l x hx).1, List.length_map]
theorem sc_app (a b : List Sub) : sc (a ++ b) = sc a ++ sc b := by rw [sc, List.map_append, List.flatMap_append]; rfl
theorem sc_cons (x : Sub) (l : List Sub) : sc (x :: l) = (eSub x).cells ++ sc l := rfl
theorem sc_one (l : List Sub) : ∀ c ∈ sc l, c.one = true := fun c hc => by
  obtain ⟨x, hx, hc⟩ := List.mem_flatMap.1 hc
  exact (eSub_sz l x hx).2 c hc
theorem sc_split (l : List Sub) (i : Nat) : sc l = sc (l.take i) ++ sc (l.drop i) := by rw [← sc_app, List.take_append_drop]
theorem sc_get {l : List Sub} {junk : List AV} {i : Nat} (h : i < l.length) : ((sc l ++ junk).drop (0 + (i : Int).toNat * 10)).take 10 = (eSub l[i]).cells := by
  rw [sc_split l i, List.drop_eq_getElem_cons h, sc_cons]
  have : 0 + (i : Int).toNat * 10 = (sc (l.take i)).length := by rw [sc_len, List.length_take]; omega
  rw [this, List.append_assoc, List.drop_left, List.append_assoc, List.take_append_of_le_length (by rw [eSub_cells]; omega), List.take_of_length_le (by rw [eSub_cells]; omega)]
theorem indexSub_nil (w0 : Base) (x : Sub) : CallP Tryz.prog w0 29 [.nils, .fn (.func 30) [] [.vp (eSub x)]] (.int .i64 (-1)) := by
  refine CallP.h Ty.tok Ty.mixed Tryz.func29 rfl Tryz.ntmps29 rfl (by simp) (by decide +kernel) fun σ => ?_
  (conv => whnf); refine Hid.seq ?_; refine Hid.reg ?_; (conv => whnf); refine Hid.seq ?_; refine Hid.seq ?_; refine Hid.reg ?_; (conv => whnf); refine Hid.block ?_; refine Hid.loop ?_
  skip
  refine SLoop.by Ty.mixed (fun _ : Unit => 0) (fun _ => [(7, .int .i64 0), (8, .int .i64 0)]) (fun _ => []) (fun _ τ => τ = σ) () ⟨by repeat (first | exact trivial | refine ⟨by first | trivial | exact Weak.refl _ | exact Weak.tok _ _ _ | exact Weak.of_eq (congrArg (AV.int _) (by omega)) | exact Weak.of_eq (congrArg AV.bool (by fail)) | exact Weak.nils _ _ (.inr rfl), ?_⟩), .none _, rfl⟩ ?_
  rintro _ τ rfl; refine Xc_h ?_; (conv => whnf); refine Hid.seq ?_; refine Hid.reg ?_; (conv => whnf); refine Hid.seq ?_; refine Hid.cond rfl ?_; refine SIf.n Ty.mixed (by exact rfl) ?_; refine Xc_h ?_; (conv => whnf); refine Hid.exit ?_; (conv => whnf); refine Hid.seq ?_; refine Hid.reg ?_; (conv => whnf); refine Hid.ret ?_; (conv => whnf); exact .p (.refl _) rfl
theorem indexSub_any (w0 : Base) (l : List Sub) (junk : List AV) (x : Sub) (b cap : Nat) (hn : l.length ≤ 1000000000) (σ : St) (hb : σ.box b = some (sc l ++ junk)) :
    CallW Tryz.prog w0 29 [.msl b 0 l.length cap, .fn (.func 30) [] [.vp (eSub x)]] σ (fun r s => r = .int .i64 (idxS x.id l 0) ∧ s = σ) := by
  refine CallW.h (B := [(b, sc l ++ junk)]) Ty.tok Ty.mixed Tryz.func29 rfl Tryz.ntmps29 rfl (by simp) (by decide +kernel) ((Know.nil σ).add hb (by simp)) ?_; (conv => whnf); refine Hid.seq ?_; refine Hid.reg ?_; (conv => whnf); refine Hid.seq ?_; refine Hid.seq ?_; refine Hid.reg ?_
  (conv => whnf); refine Hid.block ?_; refine Hid.loop ?_
  skip
  refine SLoop.by Ty.mixed (fun i : Nat => l.length - i) (fun i => [(0, .msl b 0 l.length cap), (1, .fn (.func 30) [] [.vp (eSub x)]), (7, .int .i64 l.length), (8, .int .i64 i)]) (fun _ => [(b, sc l ++ junk)]) (fun i τ => i ≤ l.length ∧ idxS x.id (l.drop i) i = idxS x.id l 0 ∧ τ = σ) 0 ⟨by repeat (first | exact trivial | refine ⟨by first | trivial | exact Weak.refl _ | exact Weak.tok _ _ _ | exact Weak.of_eq (congrArg (AV.int _) (by omega)) | exact Weak.of_eq (congrArg AV.bool (by fail)) | exact Weak.nils _ _ (.inr rfl), ?_⟩), .refl _, Nat.zero_le _, rfl, rfl⟩ ?_
  rintro i τ ⟨hi, hd, rfl⟩; refine Xc_h ?_; (conv => whnf); refine Hid.seq ?_; refine Hid.reg ?_; (conv => whnf); refine Hid.seq ?_; refine Hid.cond rfl ?_
  skip
  refine SIf.x Ty.mixed (fun hc => ?_) (fun hc => ?_); refine Xc_h ?_; (conv => whnf); refine Hid.skip ?_; (conv => whnf); refine Hid.seq ?_; refine Hid.seq ?_; refine Hid.reg ?_; (conv => whnf); refine Hid.seq ?_; refine Hid.reg ?_; (conv => whnf); rotate_left; refine Xc_h ?_; (conv => whnf); refine Hid.exit ?_; (conv => whnf); refine Hid.seq ?_; refine Hid.reg ?_; (conv => whnf)
  refine Hid.ret ?_; (conv => whnf)
  rotate_right
  · have hlt : i < l.length := by simp at hc; omega
    have ga := sc_get (junk := junk) hlt
    rw [List.drop_eq_getElem_cons hlt, idxS] at hd
    generalize l[i] = y at *
    refine And.intro (by omega) ?_; (conv => whnf); refine SLoad.as 0 _ rfl (aLoadA ga rfl rfl) ?_; (conv => whnf); refine SCall.p (by exact putFn_any w0 y x) ?_; (conv => whnf); refine Hid.cond rfl ?_; refine SIf.x Ty.mixed (fun hc => ?_) (fun hc => ?_); refine Xc_h ?_; (conv => whnf); refine Hid.seq ?_; refine Hid.reg ?_; (conv => whnf); refine Hid.ret ?_; (conv => whnf); rotate_left
    refine Xc_h ?_; (conv => whnf); refine Hid.skip ?_; (conv => whnf); refine Hid.reg ?_; (conv => whnf)
    rotate_right
    · have he : x.id < y.id := by simpa using hc
      rw [if_pos he] at hd
      skip
      exact .p (.refl _) (by rw [hd])
    · have he : ¬ x.id < y.id := by simpa using hc
      rw [if_neg he] at hd
      refine ⟨_, IntWalk.i64_in _ (by omega), ?_⟩; (conv => whnf)
      exact ⟨i + 1, by omega, by repeat (first | exact trivial | refine ⟨by first | trivial | exact Weak.refl _ | exact Weak.tok _ _ _ | exact Weak.of_eq (congrArg (AV.int _) (by omega)) | exact Weak.of_eq (congrArg AV.bool (by fail)) | exact Weak.nils _ _ (.inr rfl), ?_⟩), .refl _, hlt, hd, rfl⟩
  · have hge : i = l.length := by simp at hc; omega
    subst hge
    rw [List.drop_length, idxS] at hd
    skip
    exact .p (.refl _) (by rw [← hd])
end Go.Proofs.YtgliemhhnkhboaaGreatDoor
end
section
set_option linter.unusedVariables false
set_option linter.unusedSimpArgs false
set_option maxRecDepth 100000
set_option maxHeartbeats 2000000
namespace Go.Proofs.YtgliemhhnkhboaaGreatDoor
open Go.Al Go.RowKit
theorem over_ext (w0 : Base) (x : Sub) (t : Tok) (b off m cap : Nat) (σ : St) {cs : List AV} (hb : σ.box b = some cs) (hcs : cs ≠ []) : ExtW Tryz.prog w0 49 [.slc 10 [eSub x] t, .msl b off m cap] σ (.bool false) :=
  overlaps_ext (tR := 4) Tryz.func49 (by kernel_rfl) (by kernel_rfl) (by kernel_rfl) (by kernel_rfl) Tryz.underlying22 Ty.size35 (by decide) (by simp) hb hcs
def insR (l : List Sub) (i : Nat) (x : Sub) : List AV := (l.take i ++ x :: l.drop i).map eSub
theorem insR_cells (l : List Sub) (i : Nat) (x : Sub) : (insR l i x).flatMap AV.cells = sc (l.take i) ++ (eSub x).cells ++ sc (l.drop i) := by
  show sc (l.take i ++ x :: l.drop i) = _
  rw [sc_app, sc_cons, List.append_assoc]
theorem insR_len {l : List Sub} {i : Nat} (h : i ≤ l.length) (x : Sub) : (insR l i x).length = l.length + 1 := by simp [insR]; omega
theorem Grw.fresh {σ0 σ : St} {ys : List AV} {sz b cap : Nat} (hle : St.Le σ0 σ) (hb : σ.box b = none) (hsz : ∀ y ∈ ys, y.cells.length = sz) (hc : ys.length ≤ cap) : Grw σ0 (σ.setBox b (ys.flatMap AV.cells ++ List.replicate ((cap - ys.length) * sz) .und)) ys sz (some (b, cap)) :=
  ⟨le_new hle hb, le_none hle hb, ⟨_, setBox_same, by
    rw [List.length_append, flat_len hsz, List.length_replicate, ← Nat.add_mul, Nat.add_sub_cancel' hc]; exact Nat.le_refl _⟩, hc⟩
theorem insert_end (w0 : Base) (l : List Sub) (x : Sub) (t : Tok) (o : Option (Nat × Nat)) (hn : l.length ≤ 100000000) (σ0 σ : St) (hg : Grw σ0 σ (l.map eSub) 10 o) :
    CallW Tryz.prog w0 31 [ownV l.length o, .int .i64 l.length, .slc 10 [eSub x] t] σ (fun r s => ∃ b' cap', r = .msl b' 0 (l.length + 1) cap' ∧ Grw σ0 s (insR l l.length x) 10 (some (b', cap'))) := by
  have hsz : ∀ y ∈ l.map eSub, y.cells.length = 10 := fun y hy => (eSub_sz l y hy).1
  have hin : insR l l.length x = l.map eSub ++ [eSub x] := by simp [insR]
  cases o with
  | none =>
    have hl : l = [] := by have := hg.row; simpa [ownP] using this
    subst hl
    refine CallW.weaken (args' := [.slc 10 [] .full, .int .i64 0, .slc 10 [eSub x] t]) ?_ (.cons (.nils 10 .full (.inr rfl)) (WeakL.refl _)); refine CallW.h (B := []) Ty.tok Ty.mixed Tryz.func31 rfl Tryz.ntmps31 rfl (by simp) (by decide +kernel) (.nil σ) ?_; (conv => whnf); refine Hid.seq ?_
    refine Hid.reg ?_; (conv => whnf); refine Hid.seq ?_; refine Hid.reg ?_; (conv => whnf); refine And.intro (by omega) ?_; (conv => whnf); refine ⟨_, rfl, ?_⟩; (conv => whnf); refine Hid.seq ?_; refine Hid.reg ?_; (conv => whnf); refine Hid.seq ?_; refine Hid.seq ?_; refine Hid.reg ?_; (conv => whnf); refine Hid.cond rfl ?_; refine SIf.n Ty.mixed (by exact rfl) ?_; refine Xc_h ?_; (conv => whnf)
    refine Hid.skip ?_; (conv => whnf); refine Hid.seq ?_; refine Hid.reg ?_; (conv => whnf); refine Hid.seq ?_; refine Hid.seq ?_; refine Hid.reg ?_; (conv => whnf); refine Hid.cond rfl ?_; refine SIf.y Ty.mixed (by exact rfl) ?_; refine Xc_h ?_; (conv => whnf); refine Hid.seq ?_; refine Hid.reg ?_; (conv => whnf)
    refine SApp.e rfl rfl (by simp) (by simp) fun b cap hb hcap => ?_
    (conv => whnf); refine Hid.ret ?_; (conv => whnf); exact .w ⟨b, cap, rfl, Grw.fresh (ys := [eSub x]) hg.le hb (by simp [eSub_cells]) hcap⟩
  | some p =>
    obtain ⟨b, cap⟩ := p
    refine CallW.h (B := []) Ty.tok Ty.mixed Tryz.func31 rfl Tryz.ntmps31 rfl (by simp) (by decide +kernel) (.nil σ) ?_
    have hcap := hg.row.cap
    rw [List.length_map] at hcap
    have hrow := hg.rowS
    rw [List.length_map] at hrow
    (conv => whnf); refine Hid.seq ?_; refine Hid.reg ?_; (conv => whnf); refine Hid.seq ?_; refine Hid.reg ?_; (conv => whnf); refine And.intro (by omega) ?_; (conv => whnf); refine ⟨_, rfl, ?_⟩; (conv => whnf); refine ⟨_, rfl, ?_⟩; (conv => whnf); refine ⟨_, rfl, ?_⟩; (conv => whnf); refine Hid.seq ?_; refine Hid.reg ?_; (conv => whnf); refine Hid.seq ?_; refine Hid.seq ?_; refine Hid.reg ?_
    (conv => whnf); refine Hid.cond rfl ?_; refine SIf.n Ty.mixed (by exact rfl) ?_; refine Xc_h ?_; (conv => whnf); refine Hid.skip ?_; (conv => whnf); refine Hid.seq ?_; refine Hid.reg ?_; (conv => whnf); refine Hid.seq ?_; refine Hid.seq ?_; refine Hid.reg ?_; (conv => whnf); refine Hid.cond rfl ?_; refine SIf.y Ty.mixed (decide_eq_true rfl) ?_; refine Xc_h ?_; (conv => whnf); refine Hid.seq ?_
    refine Hid.reg ?_; (conv => whnf)
    refine SApp.row (n' := l.length + 1) (by simp) hrow rfl hsz rfl (by simp; omega) (by simp) fun b' cap' σ' q1 q2 q3 q4 => ?_
    (conv => whnf); refine Hid.ret ?_; (conv => whnf)
    exact .w ⟨b', cap', rfl, by rw [hin]; exact hg.step q1 q2 q3 q4⟩
theorem insert_mid (w0 : Base) (l : List Sub) (x : Sub) (t : Tok) (i : Nat) (b cap : Nat) (hi : i < l.length) (hn : l.length ≤ 100000000) (σ0 σ : St) (hg : Grw σ0 σ (l.map eSub) 10 (some (b, cap))) :
    CallW Tryz.prog w0 31 [.msl b 0 l.length cap, .int .i64 i, .slc 10 [eSub x] t] σ (fun r s => ∃ b' cap', r = .msl b' 0 (l.length + 1) cap' ∧ Grw σ0 s (insR l i x) 10 (some (b', cap'))) := by
  obtain ⟨hb0, ⟨junk, hb, hjl⟩, hcap⟩ := hg.row
  rw [List.length_map] at hcap
  change σ.box b = some (sc l ++ junk) at hb
  change cap * 10 ≤ (sc l ++ junk).length at hjl
  have hjl2 := hjl
  rw [List.length_append, sc_len] at hjl2
  refine CallW.h (B := [(b, sc l ++ junk)]) Ty.tok Ty.mixed Tryz.func31 rfl Tryz.ntmps31 rfl (by simp) (by decide +kernel) ((Know.nil σ).add hb (by simp)) ?_; (conv => whnf); refine Hid.seq ?_; refine Hid.reg ?_; (conv => whnf); refine Hid.seq ?_; refine Hid.reg ?_; (conv => whnf)
  refine And.intro (by omega) ?_; (conv => whnf); refine ⟨_, rfl, ?_⟩; (conv => whnf); refine ⟨_, rfl, ?_⟩; (conv => whnf); refine ⟨_, rfl, ?_⟩; (conv => whnf); refine Hid.seq ?_; refine Hid.reg ?_; (conv => whnf); refine Hid.seq ?_; refine Hid.seq ?_; refine Hid.reg ?_; (conv => whnf); refine Hid.cond rfl ?_; refine SIf.n Ty.mixed (by exact rfl) ?_; refine Xc_h ?_; (conv => whnf)
  refine Hid.skip ?_; (conv => whnf); refine Hid.seq ?_; refine Hid.reg ?_; (conv => whnf); refine Hid.seq ?_; refine Hid.seq ?_; refine Hid.reg ?_; (conv => whnf); refine Hid.cond rfl ?_
  rw [show (([eSub x] : List AV).length : Int) = 1 from rfl]
  refine SIf.n Ty.mixed (decide_eq_false (by omega)) ?_; refine Xc_h ?_; (conv => whnf); refine Hid.skip ?_; (conv => whnf); refine Hid.seq ?_; refine Hid.seq ?_; refine Hid.reg ?_; (conv => whnf); refine ⟨_, IntWalk.i64_in _ (by omega), ?_⟩; (conv => whnf); refine Hid.cond rfl ?_
  have hA : (sc (l.take i)).length = i * 10 := by rw [sc_len, List.length_take]; omega
  have hR : (sc (l.drop i)).length = (l.length - i) * 10 := by rw [sc_len, List.length_drop]
  by_cases hroom : l.length + 1 ≤ cap
  · refine SIf.n Ty.mixed (decide_eq_false (by omega)) ?_
    have hne : sc l ++ junk ≠ [] := by
      intro e
      have := congrArg List.length e
      rw [List.length_append, sc_len] at this
      simp at this; omega
    refine Xc_h ?_; (conv => whnf); refine Hid.skip ?_; (conv => whnf); refine Hid.seq ?_; refine Hid.reg ?_; (conv => whnf); refine ⟨_, IntWalk.i64_in _ (by omega), ?_⟩; (conv => whnf); refine And.intro (by omega) ?_; (conv => whnf)
    refine ⟨0, by first | (split <;> omega) | fail, ?_⟩
    (conv => whnf)
    refine ⟨l.length + 1, by first | omega | fail, ?_⟩
    (conv => whnf)
    refine ⟨cap, by first | omega | fail, ?_⟩
    (conv => whnf); refine Hid.seq ?_; refine Hid.seq ?_; refine Hid.reg ?_; (conv => whnf); refine ⟨_, IntWalk.i64_in _ (by omega), ?_⟩; (conv => whnf); refine And.intro (by omega) ?_; (conv => whnf)
    refine ⟨(i + 1) * 10, by first | (split <;> omega) | fail, ?_⟩
    (conv => whnf)
    refine ⟨l.length - i, by first | omega | fail, ?_⟩
    (conv => whnf)
    refine ⟨cap - (i + 1), by first | omega | fail, ?_⟩
    (conv => whnf); refine SCall.e (over_ext w0 x t b _ _ _ σ hb hne) rfl ?_; (conv => whnf); refine Hid.cond rfl ?_; refine SIf.y Ty.mixed (by exact rfl) ?_; refine Xc_h ?_; (conv => whnf); refine Hid.seq ?_; refine Hid.regD ?_; refine SReg.d [0, 1, 2, 3, 4, 5, 6, 7, 8] [0, 0, 0, 0, 0, 0, 0, 0, 2] (by decide +kernel) ?_; (conv => whnf); (conv => whnf); refine ⟨_, IntWalk.i64_in _ (by omega), ?_⟩
    (conv => whnf); refine And.intro (by omega) ?_; (conv => whnf)
    refine ⟨(i + 1) * 10, by first | (split <;> omega) | fail, ?_⟩
    (conv => whnf)
    refine ⟨l.length - i, by first | omega | fail, ?_⟩
    (conv => whnf)
    refine ⟨cap - (i + 1), by first | omega | fail, ?_⟩
    (conv => whnf); refine And.intro (by omega) ?_; (conv => whnf)
    refine ⟨i * 10, by first | (split <;> omega) | fail, ?_⟩
    (conv => whnf)
    refine ⟨l.length + 1 - i, by first | omega | fail, ?_⟩
    (conv => whnf)
    refine ⟨cap - i, by first | omega | fail, ?_⟩
    (conv => whnf)
    have hjj : 10 ≤ junk.length := by omega
    have e1 : setL (sc l ++ junk) ((i + 1) * 10) (sc (l.drop i)) = sc (l.take i) ++ ((sc (l.drop i) ++ junk).take 10 ++ sc (l.drop i) ++ ((sc (l.drop i) ++ junk).drop 10).drop (sc (l.drop i)).length) := by
      have h := setL_app (sc (l.drop i)) (sc (l.take i) ++ (sc (l.drop i) ++ junk).take 10) ((sc (l.drop i) ++ junk).drop 10) (by rw [List.length_drop, List.length_append]; omega)
      have hl10 : ((sc (l.drop i) ++ junk).take 10).length = 10 := by rw [List.length_take, List.length_append]; omega
      rw [List.append_assoc (sc (l.take i)), List.take_append_drop, List.length_append, hA, hl10] at h
      rw [sc_split l i, List.append_assoc, show (i + 1) * 10 = i * 10 + 10 by omega, h]
      simp only [List.append_assoc]
    refine SCopy.o (sz := 10) 0 0 rfl rfl rfl rfl (by rw [List.length_append, sc_len]; omega) rfl rfl (k := l.length - i) (by omega) (us := sc (l.drop i)) ?_ hR (List.all_eq_true.2 fun c hc => sc_one _ c hc) ?_
    · rw [sc_split l i, List.append_assoc, ← hA, List.drop_left, ← hR, List.take_left]
    intro vs hvs
    rw [e1] at hvs
    subst hvs
    (conv => whnf); refine Hid.seq ?_; refine Hid.reg ?_; (conv => whnf); refine And.intro (by omega) ?_; (conv => whnf)
    refine ⟨i * 10, by first | (split <;> omega) | fail, ?_⟩
    (conv => whnf)
    refine ⟨l.length + 1 - i, by first | omega | fail, ?_⟩
    (conv => whnf)
    refine ⟨cap - i, by first | omega | fail, ?_⟩
    (conv => whnf)
    have hl10 : ((sc (l.drop i) ++ junk).take 10).length = 10 := by rw [List.length_take, List.length_append]; omega
    generalize hZ : ((sc (l.drop i) ++ junk).drop 10).drop (sc (l.drop i)).length = Z
    have hZl : cap * 10 ≤ i * 10 + 10 + (l.length - i) * 10 + Z.length := by
      rw [← hZ, List.length_drop, List.length_drop, List.length_append, hR]; omega
    generalize (sc (l.drop i) ++ junk).take 10 = R10 at hl10 ⊢
    have hd10 : (R10 ++ sc (l.drop i) ++ Z).drop 10 = sc (l.drop i) ++ Z := by rw [List.append_assoc, ← hl10, List.drop_left]
    have e2 : setL (sc (l.take i) ++ (R10 ++ sc (l.drop i) ++ Z)) (i * 10) ([eSub x].flatMap AV.cells) = (insR l i x).flatMap AV.cells ++ Z := by
      have h := setL_app (eSub x).cells (sc (l.take i)) (R10 ++ sc (l.drop i) ++ Z) (by rw [List.length_append, List.length_append, hl10, eSub_cells]; omega)
      rw [hA] at h
      rw [show ([eSub x] : List AV).flatMap AV.cells = (eSub x).cells from by simp, h, insR_cells, eSub_cells, hd10]
      simp only [List.append_assoc]
    refine SCopy.m (sz := 10) 0 rfl rfl rfl rfl (by simp only [List.length_append, hA, hl10, hR]; omega) rfl (by simp; omega) ?_; intro vs hvs
    rw [e2] at hvs
    subst hvs
    (conv => whnf); refine Hid.seq ?_; refine Hid.reg ?_; (conv => whnf); refine Hid.ret ?_; (conv => whnf)
    skip
    refine .w ⟨b, cap, rfl, le_setBox (le_setBox hg.le hb0) hb0, hb0, ⟨Z, setBox_same, ?_⟩, by rw [insR_len (Nat.le_of_lt hi)]; exact hroom⟩
    rw [List.length_append, insR_cells, List.length_append, List.length_append, hA, hR, eSub_cells]
    exact hZl
  · refine SIf.y Ty.mixed (decide_eq_true (by omega)) ?_
    refine Xc_h ?_; (conv => whnf); refine Hid.seq ?_; refine Hid.reg ?_; (conv => whnf); refine And.intro (by omega) ?_; (conv => whnf)
    refine ⟨0, by first | (split <;> omega) | fail, ?_⟩
    (conv => whnf)
    refine ⟨i, by first | omega | fail, ?_⟩
    (conv => whnf)
    refine ⟨cap, by first | omega | fail, ?_⟩
    (conv => whnf); refine ⟨_, IntWalk.i64_in _ (by omega), ?_⟩; (conv => whnf); refine ⟨_, IntWalk.i64_in _ (by omega), ?_⟩; (conv => whnf); refine SApp.z (n := i) (kn := l.length + 1 - i) 0 rfl rfl hjl (by omega) (congrArg (AV.int .i64) (by omega)) (by omega) (by decide) (by omega) ?_; intro b' cap' hb' hcap'
    have hne : b' ≠ b := by rintro rfl; rw [hb'] at hb; cases hb
    rw [show i + (l.length + 1 - i) = l.length + 1 by omega] at hcap' ⊢
    rw [show (sc l ++ junk).take (i * 10) = sc (l.take i) by rw [sc_split l i, List.append_assoc, ← hA, List.take_left]]
    (conv => whnf); refine Hid.seq ?_; refine Hid.reg ?_; (conv => whnf); refine And.intro (by omega) ?_; (conv => whnf)
    refine ⟨i * 10, by first | (split <;> omega) | fail, ?_⟩
    (conv => whnf)
    refine ⟨l.length + 1 - i, by first | omega | fail, ?_⟩
    (conv => whnf)
    refine ⟨cap' - i, by first | omega | fail, ?_⟩
    (conv => whnf)
    have hul : (List.replicate ((cap' - i) * 10) AV.und).length = (cap' - i) * 10 := List.length_replicate
    generalize List.replicate ((cap' - i) * 10) AV.und = U at hul ⊢
    have f1 : setL (sc (l.take i) ++ U) (i * 10) ([eSub x].flatMap AV.cells) = sc (l.take i) ++ (eSub x).cells ++ U.drop 10 := by
      have h := setL_app (eSub x).cells (sc (l.take i)) U (by rw [eSub_cells]; omega)
      rw [hA, eSub_cells] at h
      rw [show ([eSub x] : List AV).flatMap AV.cells = (eSub x).cells from by simp, h]
    refine SCopy.m (sz := 10) 0 rfl rfl rfl rfl (by rw [List.length_append, hA, hul]; omega) rfl (by simp; omega) ?_; intro vs hvs
    rw [f1] at hvs
    subst hvs
    have f2 : setL (sc (l.take i) ++ (eSub x).cells ++ U.drop 10) ((i + 1) * 10) (sc (l.drop i)) = (insR l i x).flatMap AV.cells ++ (U.drop 10).drop (sc (l.drop i)).length := by
      have h := setL_app (sc (l.drop i)) (sc (l.take i) ++ (eSub x).cells) (U.drop 10) (by rw [List.length_drop, hul, hR]; omega)
      rw [List.length_append, hA, eSub_cells] at h
      rw [show (i + 1) * 10 = i * 10 + 10 by omega, h, insR_cells]
    (conv => whnf); refine Hid.seq ?_; refine Hid.regD ?_; refine SReg.d [0, 1, 2, 3, 4, 5, 6, 7, 8] [0, 0, 0, 0, 0, 0, 0, 0, 2] (by decide +kernel) ?_; (conv => whnf); (conv => whnf); refine ⟨_, IntWalk.i64_in _ (by omega), ?_⟩; (conv => whnf); refine And.intro (by omega) ?_; (conv => whnf)
    refine ⟨(i + 1) * 10, by first | (split <;> omega) | fail, ?_⟩
    (conv => whnf)
    refine ⟨l.length - i, by first | omega | fail, ?_⟩
    (conv => whnf)
    refine ⟨cap' - (i + 1), by first | omega | fail, ?_⟩
    (conv => whnf); refine And.intro (by omega) ?_; (conv => whnf)
    refine ⟨i * 10, by first | (split <;> omega) | fail, ?_⟩
    (conv => whnf)
    refine ⟨l.length - i, by first | omega | fail, ?_⟩
    (conv => whnf)
    refine ⟨l.length - i, by first | omega | fail, ?_⟩
    (conv => whnf); refine SCopy.o (sz := 10) 0 1 rfl rfl rfl rfl (by rw [List.length_append, List.length_append, hA, eSub_cells, List.length_drop, hul]; omega) rfl rfl (k := l.length - i) (by omega) (us := sc (l.drop i)) ?_ hR (List.all_eq_true.2 fun c hc => sc_one _ c hc) ?_
    · rw [sc_split l i, List.append_assoc, ← hA, List.drop_left, ← hR, List.take_left]
    intro vs hvs
    rw [f2] at hvs
    subst hvs
    have hle : St.Le σ0 σ := hg.le
    have hb0' := le_none hle hb'
    (conv => whnf); refine Hid.seq ?_; refine Hid.reg ?_; (conv => whnf); refine Hid.ret ?_; (conv => whnf)
    skip
    refine .w ⟨b', cap', rfl, le_setBox (le_setBox (le_setBox hle hb0') hb0') hb0', hb0', ⟨_, setBox_same, ?_⟩, by rw [insR_len (Nat.le_of_lt hi)]; exact hcap'⟩
    rw [List.length_append, insR_cells, List.length_append, List.length_append, List.length_drop, List.length_drop, hul, hA, hR, eSub_cells]
    omega
end Go.Proofs.YtgliemhhnkhboaaGreatDoor
end
section
set_option linter.unusedVariables false
set_option linter.unusedSimpArgs false
set_option maxRecDepth 100000
set_option maxHeartbeats 2000000
namespace Go.Proofs.YtgliemhhnkhboaaGreatDoor
open Go.Al Go.RowKit
theorem putS_ins (l : List Sub) (x : Sub) : (idxS x.id (wo l x.id) 0 = -1 ∧ (putS l x).map eSub = insR (wo l x.id) (wo l x.id).length x) ∨ ∃ i, i < (wo l x.id).length ∧ idxS x.id (wo l x.id) 0 = (i : Int) ∧ (putS l x).map eSub = insR (wo l x.id) i x := by
  rcases idxS_cases x.id (wo l x.id) 0 with ⟨h1, h2, h3⟩ | ⟨i, h1, h2, h3, h4⟩
  · exact .inl ⟨h1, by rw [putS, h2, h3, insR, List.take_length, List.drop_length]⟩
  · exact .inr ⟨i, h1, by rw [h2, Nat.zero_add], by rw [putS, h3, h4, insR]⟩
theorem Fine.wo {l : List Sub} (h : Fine l) (id : Int) : Fine (wo l id) := ⟨Nat.le_trans (wo_len l id) h.n, fun x hx => h.a x (mem_wo.1 hx).1, fun x hx => h.q x (mem_wo.1 hx).1⟩
theorem put_own (w0 : Base) (s : Stt) (x : Sub) (hf : Fine s.subs) (hxa : x.acks.length ≤ 1000000000) (hxq : x.queue.length ≤ 1000000000) (σ : St) : CallW Tryz.prog w0 13 [eStt s, eSub x] σ (fun r τ => ∃ o, r = .agg ([.int .i64 s.clock, .int .i64 s.next, .int .i64 s.last] ++ ownV ((putS s.subs x).map eSub).length o :: []) ∧ Grw σ τ ((putS s.subs x).map eSub) 10 o) := by
  refine CallW.h (B := []) Ty.tok Ty.mixed Tryz.func13 rfl Tryz.ntmps13 rfl (by simp) (by decide +kernel) (.nil σ) ?_
  have hwf := hf.wo x.id
  obtain ⟨clock, next, last, l⟩ := s
  dsimp only at hf hwf ⊢
  (conv => whnf); refine Hid.seq ?_; refine Hid.reg ?_; (conv => whnf); refine SBox.b rfl ?_; (conv => whnf); intro b2 hb2; (conv => whnf); refine SBox.f ?_; (conv => whnf); intro b4 hb4; (conv => whnf); refine Hid.seq ?_; refine Hid.reg ?_; (conv => whnf); refine SLoad.on 1 rfl ?_; (conv => whnf)
  have h4 := le_none (le_new (.refl _) hb2) hb4
  have n24 : b4 ≠ b2 := by rintro rfl; rw [setBox_same] at hb4; cases hb4
  refine SCall.w (without_own w0 ⟨clock, next, last, l⟩ x.id hf _) rfl ?_; rintro r τ ⟨o, rfl, hg⟩ hB; refine ⟨_, hB.le hg.le, ?_⟩
  have hpi := putS_ins l x
  have hwn := hwf.n
  have hml : ((Go.Proofs.YtgliemhhnkhboaaGreatDoor.wo l x.id).map eSub).length = (Go.Proofs.YtgliemhhnkhboaaGreatDoor.wo l x.id).length := by simp
  have k2 : (((σ.setBox b2 [.int .i64 clock, .int .i64 next, .int .i64 last, eSubs l]).setBox b4 [.int .i64 0, .int .i64 0, .int .i64 0, .nils]).box b2).isSome = true := by rw [setBox_ne (Ne.symm n24), setBox_same]; rfl
  have hle0 : St.Le σ ((σ.setBox b2 [.int .i64 clock, .int .i64 next, .int .i64 last, eSubs l]).setBox b4 [.int .i64 0, .int .i64 0, .int .i64 0, .nils]) := le_setBox (le_setBox (.refl _) hb2) h4
  unfold woV
  dsimp only
  rw [hml]
  generalize Go.Proofs.YtgliemhhnkhboaaGreatDoor.wo l x.id = wl at *
  have hKb : ∀ v, Know (((σ.setBox b2 [.int .i64 clock, .int .i64 next, .int .i64 last, eSubs l]).setBox b4 [.int .i64 0, .int .i64 0, .int .i64 0, .nils]).setBox b2 [.int .i64 clock, .int .i64 next, .int .i64 last, v]) [(b4, [.int .i64 0, .int .i64 0, .int .i64 0, .nils]), (b2, [.int .i64 clock, .int .i64 next, .int .i64 last, v])] := fun v => ((Know.nil _).add setBox_same (by simp)).add (by rw [setBox_ne n24, setBox_same]) (by simpa using n24)
  have hlen : ∀ i, i ≤ wl.length → (insR wl i x).length = wl.length + 1 := fun i h => insR_len h x
  cases o with
  | none =>
    have hwl : wl = [] := by have := hg.row; simpa [ownP] using this
    subst hwl
    obtain ⟨_, hp2⟩ | ⟨i, h, _⟩ := hpi
    · (conv => whnf)
      refine SStore.on 1 rfl ?_; (conv => whnf); refine Hid.seq ?_; refine Hid.reg ?_; (conv => whnf); refine SLoad.on 1 rfl ?_; (conv => whnf); refine SCall.p (by exact indexSub_nil w0 x) ?_; (conv => whnf); refine Hid.seq ?_; refine Hid.seq ?_; refine Hid.reg ?_; (conv => whnf); refine Hid.cond rfl ?_; refine SIf.y Ty.mixed (by exact rfl) ?_; refine Xc_h ?_; (conv => whnf); refine Hid.reg ?_
      (conv => whnf); refine SLoad.on 1 rfl ?_; (conv => whnf); refine Hid.seq ?_; refine Hid.regD ?_; refine SReg.t 1 [31] (by decide +kernel) ?_; (conv => whnf); refine SLoad.on 1 rfl ?_; (conv => whnf); refine SCall.p (by exact copied_any w0 x hxa hxq) ?_; (conv => whnf)
      refine SCall.w (insert_end w0 [] x _ none (by simp) _ _ (hg.both (cs := [.int .i64 clock, .int .i64 next, .int .i64 last, .nils]) k2)) rfl ?_; rintro r s ⟨b', cap', rfl, hg4⟩ hB4; refine ⟨_, (hKb _).le hg4.le, ?_⟩; (conv => whnf); refine SStore.on 1 rfl ?_; (conv => whnf); refine Hid.seq ?_; refine Hid.reg ?_; (conv => whnf); refine SLoad.on 1 rfl ?_; (conv => whnf); refine SStore.on 0 rfl ?_
      (conv => whnf); refine Hid.ret ?_; (conv => whnf); refine SLoad.on 0 rfl ?_; (conv => whnf)
      have m2 : b' ≠ b2 := hg4.ne (by rw [setBox_same]; rfl)
      have m4 : b' ≠ b4 := hg4.ne (by rw [setBox_ne n24, setBox_same]; rfl)
      refine .w ⟨some (b', cap'), by rw [hp2, hlen _ (Nat.le_refl _)]; rfl, ?_⟩
      rw [hp2]
      exact ((hg4.base (le_setBox hle0 hb2)).keeps hb2 fun b cap e => by cases e; exact m2).keeps h4 fun b cap e => by cases e; exact m4
    · simp at h
  | some p =>
    obtain ⟨b, cap⟩ := p
    obtain ⟨junk, hbj, _⟩ := hg.row.has
    have hbne := hg.ne k2
    have hgb := hg.both (cs := [.int .i64 clock, .int .i64 next, .int .i64 last, .msl b 0 wl.length cap]) k2
    have hix := indexSub_any w0 wl junk x b cap (by omega) (τ.setBox b2 [.int .i64 clock, .int .i64 next, .int .i64 last, .msl b 0 wl.length cap]) (by rw [setBox_ne hbne]; exact hbj)
    obtain ⟨hi1, hp2⟩ | ⟨i, hil, hi1, hp2⟩ := hpi
    · rw [hi1] at hix
      (conv => whnf); refine SStore.on 1 rfl ?_; (conv => whnf); refine Hid.seq ?_; refine Hid.reg ?_; (conv => whnf); refine SLoad.on 1 rfl ?_; (conv => whnf); refine SCall.q hix (.inr rfl) ?_; (conv => whnf); refine Hid.seq ?_; refine Hid.seq ?_; refine Hid.reg ?_; (conv => whnf); refine Hid.cond rfl ?_; refine SIf.y Ty.mixed (by exact rfl) ?_; refine Xc_h ?_; (conv => whnf); refine Hid.reg ?_
      (conv => whnf); refine SLoad.on 1 rfl ?_; (conv => whnf); refine Hid.seq ?_; refine Hid.regD ?_; refine SReg.t 1 [31] (by decide +kernel) ?_; (conv => whnf); refine SLoad.on 1 rfl ?_; (conv => whnf); refine SCall.p (by exact copied_any w0 x hxa hxq) ?_; (conv => whnf)
      refine SCall.w (insert_end w0 wl x _ (some (b, cap)) hwn _ _ hgb) rfl ?_; rintro r s ⟨b', cap', rfl, hg4⟩ hB4; refine ⟨_, (hKb _).le hg4.le, ?_⟩; (conv => whnf); refine SStore.on 1 rfl ?_; (conv => whnf); refine Hid.seq ?_; refine Hid.reg ?_; (conv => whnf); refine SLoad.on 1 rfl ?_; (conv => whnf); refine SStore.on 0 rfl ?_; (conv => whnf); refine Hid.ret ?_; (conv => whnf)
      refine SLoad.on 0 rfl ?_; (conv => whnf)
      have m2 : b' ≠ b2 := hg4.ne (by rw [setBox_same]; rfl)
      have m4 : b' ≠ b4 := hg4.ne (by rw [setBox_ne n24, setBox_same]; rfl)
      refine .w ⟨some (b', cap'), by rw [hp2, hlen _ (Nat.le_refl _)]; rfl, ?_⟩
      rw [hp2]
      exact ((hg4.base (le_setBox hle0 hb2)).keeps hb2 fun b cap e => by cases e; exact m2).keeps h4 fun b cap e => by cases e; exact m4
    · rw [hi1] at hix
      (conv => whnf); refine SStore.on 1 rfl ?_; (conv => whnf); refine Hid.seq ?_; refine Hid.reg ?_; (conv => whnf); refine SLoad.on 1 rfl ?_; (conv => whnf); refine SCall.q hix (.inr rfl) ?_; (conv => whnf); refine Hid.seq ?_; refine Hid.seq ?_; refine Hid.reg ?_; (conv => whnf); refine Hid.cond rfl ?_; refine SIf.n Ty.mixed (by exact rfl) ?_; refine Xc_h ?_; (conv => whnf); refine Hid.skip ?_
      (conv => whnf); refine Hid.seq ?_; refine Hid.regD ?_; refine SReg.t 1 [31] (by decide +kernel) ?_; (conv => whnf); refine SLoad.on 1 rfl ?_; (conv => whnf); refine SCall.p (by exact copied_any w0 x hxa hxq) ?_; (conv => whnf); refine SCall.w (insert_mid w0 wl x _ i b cap hil hwn _ _ hgb) rfl ?_; rintro r s ⟨b', cap', rfl, hg4⟩ hB4
      refine ⟨_, (hKb _).le hg4.le, ?_⟩; (conv => whnf); refine SStore.on 1 rfl ?_; (conv => whnf); refine Hid.seq ?_; refine Hid.reg ?_; (conv => whnf); refine SLoad.on 1 rfl ?_; (conv => whnf); refine SStore.on 0 rfl ?_; (conv => whnf); refine Hid.ret ?_; (conv => whnf); refine SLoad.on 0 rfl ?_; (conv => whnf)
      have m2 : b' ≠ b2 := hg4.ne (by rw [setBox_same]; rfl)
      have m4 : b' ≠ b4 := hg4.ne (by rw [setBox_ne n24, setBox_same]; rfl)
      refine .w ⟨some (b', cap'), by rw [hp2, hlen _ (Nat.le_of_lt hil)]; rfl, ?_⟩
      rw [hp2]
      exact ((hg4.base (le_setBox hle0 hb2)).keeps hb2 fun b cap e => by cases e; exact m2).keeps h4 fun b cap e => by cases e; exact m4
theorem put_any (w0 : Base) (s : Stt) (x : Sub) (hf : Fine s.subs) (hxa : x.acks.length ≤ 1000000000) (hxq : x.queue.length ≤ 1000000000) : CallP Tryz.prog w0 13 [eStt s, eSub x] (eStt { s with subs := putS s.subs x }) := fun σ => by
  have := CallW.sealOwn (eSub_sz _) (put_own w0 s x hf hxa hxq σ)
  exact this
theorem without_any (w0 : Base) (s : Stt) (id : Int) (hf : Fine s.subs) : CallP Tryz.prog w0 17 [eStt s, .int .i64 id] (eStt { s with subs := Go.Proofs.YtgliemhhnkhboaaGreatDoor.wo s.subs id }) := fun σ => by
  have := CallW.sealOwn (pre := [.int .i64 s.clock, .int .i64 s.next, .int .i64 s.last]) (post := []) (eSub_sz _) (without_own w0 s id hf σ)
  exact this
end Go.Proofs.YtgliemhhnkhboaaGreatDoor
end
section
set_option linter.unusedVariables false
set_option linter.unusedSimpArgs false
set_option maxRecDepth 100000
set_option maxHeartbeats 4000000
namespace Go.Proofs.YtgliemhhnkhboaaGreatDoor
open Go.Al Go.RowKit
instance : FlatEq Tryz.prog 49 := ⟨⟨_, Tryz.underlying49⟩, by kernel_rfl, by kernel_rfl⟩
theorem flat_msg (m : Msg) {fs : List Field} (h : Tryz.prog.underlying 49 = some (.struct fs.toArray)) : flatFrom Tryz.prog 0 fs (eMsg m).cells = true := by
  rw [Tryz.underlying49] at h
  simp only [Option.some.injEq, TypeDesc.struct.injEq] at h
  have h := congrArg Array.toList h
  simp only [List.toList_toArray] at h
  subst h
  simp [flatFrom, eMsg, AV.cells, cellD, Tryz.underlying3, Tryz.underlying9, Tryz.underlying4]
theorem eq_msg (m n : Msg) : eqCells (eMsg m).cells (eMsg n).cells = some (decide (m = n)) := by
  simp only [eMsg, AV.cells, eqCells, eqCell, if_true]
  obtain ⟨a1, a2, a3, a4, a5, a6, a7, a8⟩ := m
  obtain ⟨b1, b2, b3, b4, b5, b6, b7, b8⟩ := n
  congr 1
  rw [Bool.eq_iff_iff]
  simp only [Bool.and_eq_true, beq_iff_eq, decide_eq_true_eq, Msg.mk.injEq, Bool.and_true, and_true]
theorem sameMsgs_any (w0 : Base) (a b : List Msg) (ta tb : Tok) (ha : a.length ≤ 1000000000) : CallP Tryz.prog w0 33 [.slc 8 (a.map eMsg) ta, .slc 8 (b.map eMsg) tb] (.bool (decide (a = b))) := by
  refine CallP.start Tryz.func33 rfl Tryz.ntmps33 (by simp) fun σ Q hQ => ?_
  refine W.seq ?_; refine W.regionL (by decide +kernel) rfl ?_; apply r_op; exact rfl; exact rfl; apply a_assign; (conv => (lhs; whnf)); (with_reducible refine runs_done ?_); refine W.seq ?_; refine W.seq ?_; refine W.regionL (by decide +kernel) rfl ?_; apply r_op; exact rfl; exact rfl; apply a_move; (conv => (lhs; whnf)); apply r_op; exact rfl; exact rfl; apply g_call; exact a_len_slc rfl
  apply r_op; exact rfl; exact rfl; apply a_move; (conv => (lhs; whnf)); apply r_op; exact rfl; exact rfl; apply g_call; exact a_len_slc rfl; apply r_op; exact rfl; exact rfl; apply g_binOp; exact a_binI rfl rfl rfl; (with_reducible refine runs_done ?_); refine W.cond rfl (fun hc => ?_) (fun hc => ?_); refine W.seq ?_; refine W.regionL (by decide +kernel) rfl ?_; apply r_op; exact rfl; exact rfl
  apply a_assign; (conv => (lhs; whnf)); (with_reducible refine runs_done ?_); refine W.ret ?_; show Q Exit.ret _ _; refine post_q hQ (by apply res_tmp; exact rfl; exact res_nil) (.inl rfl) (by exact .refl _) ?_; (conv => (lhs; whnf)); rotate_left; refine W.skip ?_; show W _ _ _ _ _ _ _; refine W.seq ?_; refine W.seq ?_; refine W.regionL (by decide +kernel) rfl ?_; apply r_op; exact rfl; exact rfl
  apply a_assign; (conv => (lhs; whnf)); (with_reducible refine runs_done ?_); refine W.block ?_; rotate_left
  · have : ¬ a = b := by rintro rfl; simp at hc
    simp [this]
  · have hlen : a.length = b.length := by simp at hc; omega
    clear hc
    refine W.loop (fun k E s => ∃ i : Nat, i ≤ a.length ∧ k = a.length - i ∧ s = σ ∧ a.take i = b.take i ∧ Has [(0, .slc 8 (a.map eMsg) .no), (1, .slc 8 (b.map eMsg) .no), (5, .int .i64 i)] E) a.length ⟨0, Nat.zero_le _, rfl, rfl, by simp, by exact Has.by (by repeat (first | exact trivial | refine ⟨by first | trivial | exact Weak.refl _ | exact Weak.tok _ _ _ | exact Weak.of_eq (congrArg (AV.int _) (by omega)) | exact Weak.of_eq (congrArg AV.bool (by fail)) | exact Weak.nils _ _ (.inr rfl), ?_⟩))⟩ ?_
    rintro k E s ⟨i, hi, rfl, rfl, htk, hE⟩; refine W.has hE ?_; clear hE; refine W.seq ?_; refine W.seq ?_; refine W.regionL (by decide +kernel) rfl ?_; apply r_op; exact rfl; exact rfl; apply a_move; (conv => (lhs; whnf)); apply r_op; exact rfl; exact rfl; apply a_move; (conv => (lhs; whnf)); apply r_op; exact rfl; exact rfl; apply g_call; exact a_len_slc rfl; apply r_op; exact rfl; exact rfl
    apply g_binOp; exact a_binI rfl rfl rfl; (with_reducible refine runs_done ?_); refine W.cond rfl (fun hc => ?_) (fun hc => ?_)
    · have hlt : i < a.length := by simp at hc; omega
      have ga : a[i]? = some a[i] := by simp [hlt]
      have gb : b[i]? = some (b[i]'(by omega)) := List.getElem?_eq_getElem (by omega)
      have ht := take_succ_iff hlt (show i < b.length by omega) htk
      generalize a[i] = x at ga ht
      generalize b[i]'(by omega) = y at gb ht
      refine W.skip ?_; show W _ _ _ _ _ _ _; refine W.seq ?_; refine W.block ?_; refine W.seq ?_; refine W.regionDK 1 [] Ty.mixed (by decide +kernel) (by decide +kernel) rfl ?_; apply r_op; exact rfl; exact rfl; apply a_move; (conv => (lhs; whnf)); apply r_op; exact rfl; exact rfl; apply a_move; (conv => (lhs; whnf)); apply r_op; exact rfl; exact rfl; apply g_indexAddr
      exact a_indexAddr rfl rfl (by decide) (by omega) (by exact get_map ga); apply r_op; exact rfl; exact rfl; apply g_load; exact a_loadA rfl (by rfl) rfl; apply r_op; exact rfl; exact rfl; apply a_move; (conv => (lhs; whnf)); apply r_op; exact rfl; exact rfl; apply a_move; (conv => (lhs; whnf)); apply r_op; exact rfl; exact rfl; apply g_indexAddr
      exact a_indexAddr rfl rfl (by decide) (by omega) (by exact get_map gb); apply r_op; exact rfl; exact rfl; apply g_load; exact a_loadA rfl (by rfl) rfl; apply r_eqAgg; exact rfl; exact rfl; exact rfl; exact rfl; infer_instance; exact rfl; intro fs hfs; exact flat_msg _ hfs; exact eq_msg _ _; exact rfl; (with_reducible refine runs_done ?_); refine W.cond rfl (fun hc => ?_) (fun hc => ?_)
      refine W.seq ?_; refine W.regionL (by decide +kernel) rfl ?_; apply r_op; exact rfl; exact rfl; apply a_assign; (conv => (lhs; whnf)); (with_reducible refine runs_done ?_); refine W.ret ?_; show Q Exit.ret _ _; refine post_q hQ (by apply res_tmp; exact rfl; exact res_nil) (.inl rfl) (by exact .refl _) ?_; (conv => (lhs; whnf)); rotate_left; refine W.skip ?_; show W _ _ _ _ _ _ _
      refine W.regionL (by decide +kernel) rfl ?_; apply r_op; exact rfl; exact rfl; apply a_move; (conv => (lhs; whnf)); apply r_op; exact rfl; exact rfl; apply g_binOp; exact a_add64 rfl rfl (by omega); apply r_op; exact rfl; exact rfl; apply a_assign; (conv => (lhs; whnf)); (with_reducible refine runs_done ?_); rotate_left
      · have : ¬ a = b := fun e => by subst e; rw [ga] at gb; cases gb; simp at hc
        simp [this]
      · have hxy : x = y := by simpa using hc
        exact ⟨a.length - (i + 1), by omega, i + 1, by omega, rfl, rfl, ht.2 hxy, by exact Has.by (by repeat (first | exact trivial | refine ⟨by first | trivial | exact Weak.refl _ | exact Weak.tok _ _ _ | exact Weak.of_eq (congrArg (AV.int _) (by omega)) | exact Weak.of_eq (congrArg AV.bool (by fail)) | exact Weak.nils _ _ (.inr rfl), ?_⟩))⟩
    · have hge : i = a.length := by simp at hc; omega
      refine W.exit ?_; show W _ _ _ _ _ _ _; refine W.seq ?_; refine W.regionL (by decide +kernel) rfl ?_; apply r_op; exact rfl; exact rfl; apply a_assign; (conv => (lhs; whnf)); (with_reducible refine runs_done ?_); refine W.ret ?_; show Q Exit.ret _ _; refine post_q hQ (by apply res_tmp; exact rfl; exact res_nil) (.inl rfl) (by exact .refl _) ?_; (conv => (lhs; whnf))
      have : a = b := by rw [hge, List.take_length, hlen, List.take_length] at htk; exact htk
      simp [this]
theorem sub_ext {x y : Sub} (h1 : x.id = y.id) (h2 : x.name = y.name) (h3 : x.topic = y.topic) (h4 : x.want = y.want) (h5 : x.lease = y.lease) (h6 : x.most = y.most) (h7 : x.floor = y.floor) (h8 : x.acks = y.acks) (h9 : x.queue = y.queue) (h10 : x.note = y.note) : x = y := by
  cases x; cases y; simp_all
theorem sameSub_any (w0 : Base) (x y : Sub) (hq : x.queue.length ≤ 1000000000) (ha : x.acks.length ≤ 1000000000) : CallP Tryz.prog w0 15 [eSub x, eSub y] (.bool (decide (x = y))) := by
  refine CallP.start Tryz.func15 rfl Tryz.ntmps15 (by simp) fun σ Q hQ => ?_
  refine W.seq ?_; refine W.regionL (by decide +kernel) rfl ?_; apply r_boxF; exact rfl; exact rfl; exact rfl; (conv => (lhs; whnf)); exact rfl; apply r_boxF; exact rfl; exact rfl; exact rfl; (conv => (lhs; whnf)); exact rfl; apply r_op; exact rfl; exact rfl; apply a_assign; (conv => (lhs; whnf)); (with_reducible refine runs_done ?_); refine W.seq ?_; refine W.seq ?_
  refine W.regionL (by decide +kernel) rfl ?_; apply r_op; exact rfl; exact rfl; apply g_fieldAddr; exact a_fieldAddr1 rfl (by decide) rfl; apply r_op; exact rfl; exact rfl; apply g_load; exact a_load1 rfl rfl; apply r_op; exact rfl; exact rfl; apply g_fieldAddr; exact a_fieldAddr1 rfl (by decide) rfl; apply r_op; exact rfl; exact rfl; apply g_load; exact a_load1 rfl rfl; apply r_op; exact rfl
  exact rfl; apply g_binOp; exact a_binI rfl rfl rfl; apply r_op; exact rfl; exact rfl; apply a_move; (conv => (lhs; whnf)); refine q_split rfl rfl rfl (fun hg => ?_) (fun hg => ?_); apply q_skip; exact rfl; exact want_f rfl rfl rfl (by assumption); apply q_skip; exact rfl; exact want_f rfl rfl rfl (by assumption); apply q_skip; exact rfl; exact want_f rfl rfl rfl (by assumption); apply q_skip
  exact rfl; exact want_f rfl rfl rfl (by assumption); apply q_skip; exact rfl; exact want_f rfl rfl rfl (by assumption); apply r_op; exact rfl; exact rfl; apply g_pick; apply a_pickT rfl (by assumption); (conv => (lhs; whnf)); apply r_op; exact rfl; exact rfl; apply a_move; (conv => (lhs; whnf)); apply q_skip; exact rfl; exact want_f rfl rfl rfl (by exact rfl); apply q_skip; exact rfl
  exact want_f rfl rfl rfl (by exact rfl); apply q_skip; exact rfl; exact want_f rfl rfl rfl (by exact rfl); apply q_skip; exact rfl; exact want_f rfl rfl rfl (by exact rfl); apply q_skip; exact rfl; exact want_f rfl rfl rfl (by exact rfl); apply r_op; exact rfl; exact rfl; apply g_pick; apply a_pickT rfl (by exact rfl); (conv => (lhs; whnf)); apply r_op; exact rfl; exact rfl; apply a_move
  (conv => (lhs; whnf)); apply q_skip; exact rfl; exact want_f rfl rfl rfl (by exact rfl); apply q_skip; exact rfl; exact want_f rfl rfl rfl (by exact rfl); apply q_skip; exact rfl; exact want_f rfl rfl rfl (by exact rfl); apply q_skip; exact rfl; exact want_f rfl rfl rfl (by exact rfl); apply q_skip; exact rfl; exact want_f rfl rfl rfl (by exact rfl); apply r_op; exact rfl; exact rfl; apply g_pick
  apply a_pickT rfl (by exact rfl); (conv => (lhs; whnf)); apply r_op; exact rfl; exact rfl; apply a_move; (conv => (lhs; whnf)); apply q_skip; exact rfl; exact want_f rfl rfl rfl (by exact rfl); apply q_skip; exact rfl; exact want_f rfl rfl rfl (by exact rfl); apply q_skip; exact rfl; exact want_f rfl rfl rfl (by exact rfl); apply q_skip; exact rfl; exact want_f rfl rfl rfl (by exact rfl)
  apply q_skip; exact rfl; exact want_f rfl rfl rfl (by exact rfl); apply r_op; exact rfl; exact rfl; apply g_pick; apply a_pickT rfl (by exact rfl); (conv => (lhs; whnf)); apply r_op; exact rfl; exact rfl; apply a_move; (conv => (lhs; whnf)); apply q_skip; exact rfl; exact want_f rfl rfl rfl (by exact rfl); apply q_skip; exact rfl; exact want_f rfl rfl rfl (by exact rfl); apply q_skip; exact rfl
  exact want_f rfl rfl rfl (by exact rfl); apply q_skip; exact rfl; exact want_f rfl rfl rfl (by exact rfl); apply q_skip; exact rfl; exact want_f rfl rfl rfl (by exact rfl); apply r_op; exact rfl; exact rfl; apply g_pick; apply a_pickT rfl (by exact rfl); (conv => (lhs; whnf)); apply r_op; exact rfl; exact rfl; apply a_move; (conv => (lhs; whnf)); apply q_skip; exact rfl
  exact want_f rfl rfl rfl (by exact rfl); apply q_skip; exact rfl; exact want_f rfl rfl rfl (by exact rfl); apply q_skip; exact rfl; exact want_f rfl rfl rfl (by exact rfl); apply q_skip; exact rfl; exact want_f rfl rfl rfl (by exact rfl); apply q_skip; exact rfl; exact want_f rfl rfl rfl (by exact rfl); apply r_op; exact rfl; exact rfl; apply g_pick; apply a_pickT rfl (by exact rfl)
  (conv => (lhs; whnf)); apply r_op; exact rfl; exact rfl; apply a_move; (conv => (lhs; whnf)); apply q_skip; exact rfl; exact want_f rfl rfl rfl (by exact rfl); apply q_skip; exact rfl; exact want_f rfl rfl rfl (by exact rfl); apply q_skip; exact rfl; exact want_f rfl rfl rfl (by exact rfl); apply q_skip; exact rfl; exact want_f rfl rfl rfl (by exact rfl); apply q_skip; exact rfl
  exact want_f rfl rfl rfl (by exact rfl); apply r_op; exact rfl; exact rfl; apply g_pick; apply a_pickT rfl (by exact rfl); (conv => (lhs; whnf)); apply r_op; exact rfl; exact rfl; apply a_move; (conv => (lhs; whnf)); apply q_skip; exact rfl; exact want_f rfl rfl rfl (by exact rfl); apply q_skip; exact rfl; exact want_f rfl rfl rfl (by exact rfl); apply q_skip; exact rfl
  exact want_f rfl rfl rfl (by exact rfl); apply q_skip; exact rfl; exact want_f rfl rfl rfl (by exact rfl); apply q_skip; exact rfl; exact want_f rfl rfl rfl (by exact rfl); apply q_skip; exact rfl; exact want_f rfl rfl rfl (by exact rfl); apply q_skip; exact rfl; exact want_f rfl rfl rfl (by exact rfl); apply r_op; exact rfl; exact rfl; apply g_pick; apply a_pickT rfl (by exact rfl)
  (conv => (lhs; whnf)); (with_reducible refine runs_done ?_); refine W.condT rfl (by exact rfl) ?_; refine W.seq ?_; refine W.regionL (by decide +kernel) rfl ?_; apply r_op; exact rfl; exact rfl; apply a_assign; (conv => (lhs; whnf)); (with_reducible refine runs_done ?_); refine W.ret ?_; show Q Exit.ret _ _
  refine post_q hQ (by apply res_tmp; exact rfl; exact res_nil) (.inl rfl) (by exact .refl _) ?_; (conv => (lhs; whnf)); rotate_left; apply r_op; exact rfl; exact want_t rfl rfl rfl (by assumption); apply g_fieldAddr; exact a_fieldAddr1 rfl (by decide) rfl; apply r_op; exact rfl; exact want_t rfl rfl rfl (by assumption); apply g_load; exact a_load1 rfl rfl; apply r_op; exact rfl
  exact want_t rfl rfl rfl (by assumption); apply g_fieldAddr; exact a_fieldAddr1 rfl (by decide) rfl; apply r_op; exact rfl; exact want_t rfl rfl rfl (by assumption); apply g_load; exact a_load1 rfl rfl; apply r_op; exact rfl; exact want_t rfl rfl rfl (by assumption); apply g_binOp; exact a_binS rfl rfl rfl rfl; apply r_op; exact rfl; exact rfl; apply g_pick; apply a_pickF rfl (by assumption)
  (conv => (lhs; whnf)); apply r_op; exact rfl; exact rfl; apply a_move; (conv => (lhs; whnf)); refine q_split rfl rfl rfl (fun hg => ?_) (fun hg => ?_); apply q_skip; exact rfl; exact want_f rfl rfl rfl (by assumption); apply q_skip; exact rfl; exact want_f rfl rfl rfl (by assumption); apply q_skip; exact rfl; exact want_f rfl rfl rfl (by assumption); apply q_skip; exact rfl
  exact want_f rfl rfl rfl (by assumption); apply q_skip; exact rfl; exact want_f rfl rfl rfl (by assumption); apply r_op; exact rfl; exact rfl; apply g_pick; apply a_pickT rfl (by assumption); (conv => (lhs; whnf)); apply r_op; exact rfl; exact rfl; apply a_move; (conv => (lhs; whnf)); apply q_skip; exact rfl; exact want_f rfl rfl rfl (by exact rfl); apply q_skip; exact rfl
  exact want_f rfl rfl rfl (by exact rfl); apply q_skip; exact rfl; exact want_f rfl rfl rfl (by exact rfl); apply q_skip; exact rfl; exact want_f rfl rfl rfl (by exact rfl); apply q_skip; exact rfl; exact want_f rfl rfl rfl (by exact rfl); apply r_op; exact rfl; exact rfl; apply g_pick; apply a_pickT rfl (by exact rfl); (conv => (lhs; whnf)); apply r_op; exact rfl; exact rfl; apply a_move
  (conv => (lhs; whnf)); apply q_skip; exact rfl; exact want_f rfl rfl rfl (by exact rfl); apply q_skip; exact rfl; exact want_f rfl rfl rfl (by exact rfl); apply q_skip; exact rfl; exact want_f rfl rfl rfl (by exact rfl); apply q_skip; exact rfl; exact want_f rfl rfl rfl (by exact rfl); apply q_skip; exact rfl; exact want_f rfl rfl rfl (by exact rfl); apply r_op; exact rfl; exact rfl; apply g_pick
  apply a_pickT rfl (by exact rfl); (conv => (lhs; whnf)); apply r_op; exact rfl; exact rfl; apply a_move; (conv => (lhs; whnf)); apply q_skip; exact rfl; exact want_f rfl rfl rfl (by exact rfl); apply q_skip; exact rfl; exact want_f rfl rfl rfl (by exact rfl); apply q_skip; exact rfl; exact want_f rfl rfl rfl (by exact rfl); apply q_skip; exact rfl; exact want_f rfl rfl rfl (by exact rfl)
  apply q_skip; exact rfl; exact want_f rfl rfl rfl (by exact rfl); apply r_op; exact rfl; exact rfl; apply g_pick; apply a_pickT rfl (by exact rfl); (conv => (lhs; whnf)); apply r_op; exact rfl; exact rfl; apply a_move; (conv => (lhs; whnf)); apply q_skip; exact rfl; exact want_f rfl rfl rfl (by exact rfl); apply q_skip; exact rfl; exact want_f rfl rfl rfl (by exact rfl); apply q_skip; exact rfl
  exact want_f rfl rfl rfl (by exact rfl); apply q_skip; exact rfl; exact want_f rfl rfl rfl (by exact rfl); apply q_skip; exact rfl; exact want_f rfl rfl rfl (by exact rfl); apply r_op; exact rfl; exact rfl; apply g_pick; apply a_pickT rfl (by exact rfl); (conv => (lhs; whnf)); apply r_op; exact rfl; exact rfl; apply a_move; (conv => (lhs; whnf)); apply q_skip; exact rfl
  exact want_f rfl rfl rfl (by exact rfl); apply q_skip; exact rfl; exact want_f rfl rfl rfl (by exact rfl); apply q_skip; exact rfl; exact want_f rfl rfl rfl (by exact rfl); apply q_skip; exact rfl; exact want_f rfl rfl rfl (by exact rfl); apply q_skip; exact rfl; exact want_f rfl rfl rfl (by exact rfl); apply r_op; exact rfl; exact rfl; apply g_pick; apply a_pickT rfl (by exact rfl)
  (conv => (lhs; whnf)); apply r_op; exact rfl; exact rfl; apply a_move; (conv => (lhs; whnf)); apply q_skip; exact rfl; exact want_f rfl rfl rfl (by exact rfl); apply q_skip; exact rfl; exact want_f rfl rfl rfl (by exact rfl); apply q_skip; exact rfl; exact want_f rfl rfl rfl (by exact rfl); apply q_skip; exact rfl; exact want_f rfl rfl rfl (by exact rfl); apply q_skip; exact rfl
  exact want_f rfl rfl rfl (by exact rfl); apply q_skip; exact rfl; exact want_f rfl rfl rfl (by exact rfl); apply q_skip; exact rfl; exact want_f rfl rfl rfl (by exact rfl); apply r_op; exact rfl; exact rfl; apply g_pick; apply a_pickT rfl (by exact rfl); (conv => (lhs; whnf)); (with_reducible refine runs_done ?_); refine W.condT rfl (by exact rfl) ?_; refine W.seq ?_
  refine W.regionL (by decide +kernel) rfl ?_; apply r_op; exact rfl; exact rfl; apply a_assign; (conv => (lhs; whnf)); (with_reducible refine runs_done ?_); refine W.ret ?_; show Q Exit.ret _ _; refine post_q hQ (by apply res_tmp; exact rfl; exact res_nil) (.inl rfl) (by exact .refl _) ?_; (conv => (lhs; whnf)); rotate_left; apply r_op; exact rfl; exact want_t rfl rfl rfl (by assumption)
  apply g_fieldAddr; exact a_fieldAddr1 rfl (by decide) rfl; apply r_op; exact rfl; exact want_t rfl rfl rfl (by assumption); apply g_load; exact a_load1 rfl rfl; apply r_op; exact rfl; exact want_t rfl rfl rfl (by assumption); apply g_fieldAddr; exact a_fieldAddr1 rfl (by decide) rfl; apply r_op; exact rfl; exact want_t rfl rfl rfl (by assumption); apply g_load; exact a_load1 rfl rfl; apply r_op
  exact rfl; exact want_t rfl rfl rfl (by assumption); apply g_binOp; exact a_binS rfl rfl rfl rfl; apply r_op; exact rfl; exact rfl; apply g_pick; apply a_pickF rfl (by assumption); (conv => (lhs; whnf)); apply r_op; exact rfl; exact rfl; apply a_move; (conv => (lhs; whnf)); refine q_split rfl rfl rfl (fun hg => ?_) (fun hg => ?_); apply q_skip; exact rfl; exact want_f rfl rfl rfl (by assumption)
  apply q_skip; exact rfl; exact want_f rfl rfl rfl (by assumption); apply q_skip; exact rfl; exact want_f rfl rfl rfl (by assumption); apply q_skip; exact rfl; exact want_f rfl rfl rfl (by assumption); apply q_skip; exact rfl; exact want_f rfl rfl rfl (by assumption); apply r_op; exact rfl; exact rfl; apply g_pick; apply a_pickT rfl (by assumption); (conv => (lhs; whnf)); apply r_op; exact rfl
  exact rfl; apply a_move; (conv => (lhs; whnf)); apply q_skip; exact rfl; exact want_f rfl rfl rfl (by exact rfl); apply q_skip; exact rfl; exact want_f rfl rfl rfl (by exact rfl); apply q_skip; exact rfl; exact want_f rfl rfl rfl (by exact rfl); apply q_skip; exact rfl; exact want_f rfl rfl rfl (by exact rfl); apply q_skip; exact rfl; exact want_f rfl rfl rfl (by exact rfl); apply r_op; exact rfl
  exact rfl; apply g_pick; apply a_pickT rfl (by exact rfl); (conv => (lhs; whnf)); apply r_op; exact rfl; exact rfl; apply a_move; (conv => (lhs; whnf)); apply q_skip; exact rfl; exact want_f rfl rfl rfl (by exact rfl); apply q_skip; exact rfl; exact want_f rfl rfl rfl (by exact rfl); apply q_skip; exact rfl; exact want_f rfl rfl rfl (by exact rfl); apply q_skip; exact rfl
  exact want_f rfl rfl rfl (by exact rfl); apply q_skip; exact rfl; exact want_f rfl rfl rfl (by exact rfl); apply r_op; exact rfl; exact rfl; apply g_pick; apply a_pickT rfl (by exact rfl); (conv => (lhs; whnf)); apply r_op; exact rfl; exact rfl; apply a_move; (conv => (lhs; whnf)); apply q_skip; exact rfl; exact want_f rfl rfl rfl (by exact rfl); apply q_skip; exact rfl
  exact want_f rfl rfl rfl (by exact rfl); apply q_skip; exact rfl; exact want_f rfl rfl rfl (by exact rfl); apply q_skip; exact rfl; exact want_f rfl rfl rfl (by exact rfl); apply q_skip; exact rfl; exact want_f rfl rfl rfl (by exact rfl); apply r_op; exact rfl; exact rfl; apply g_pick; apply a_pickT rfl (by exact rfl); (conv => (lhs; whnf)); apply r_op; exact rfl; exact rfl; apply a_move
  (conv => (lhs; whnf)); apply q_skip; exact rfl; exact want_f rfl rfl rfl (by exact rfl); apply q_skip; exact rfl; exact want_f rfl rfl rfl (by exact rfl); apply q_skip; exact rfl; exact want_f rfl rfl rfl (by exact rfl); apply q_skip; exact rfl; exact want_f rfl rfl rfl (by exact rfl); apply q_skip; exact rfl; exact want_f rfl rfl rfl (by exact rfl); apply r_op; exact rfl; exact rfl; apply g_pick
  apply a_pickT rfl (by exact rfl); (conv => (lhs; whnf)); apply r_op; exact rfl; exact rfl; apply a_move; (conv => (lhs; whnf)); apply q_skip; exact rfl; exact want_f rfl rfl rfl (by exact rfl); apply q_skip; exact rfl; exact want_f rfl rfl rfl (by exact rfl); apply q_skip; exact rfl; exact want_f rfl rfl rfl (by exact rfl); apply q_skip; exact rfl; exact want_f rfl rfl rfl (by exact rfl)
  apply q_skip; exact rfl; exact want_f rfl rfl rfl (by exact rfl); apply q_skip; exact rfl; exact want_f rfl rfl rfl (by exact rfl); apply q_skip; exact rfl; exact want_f rfl rfl rfl (by exact rfl); apply r_op; exact rfl; exact rfl; apply g_pick; apply a_pickT rfl (by exact rfl); (conv => (lhs; whnf)); (with_reducible refine runs_done ?_); refine W.condT rfl (by exact rfl) ?_; refine W.seq ?_
  refine W.regionL (by decide +kernel) rfl ?_; apply r_op; exact rfl; exact rfl; apply a_assign; (conv => (lhs; whnf)); (with_reducible refine runs_done ?_); refine W.ret ?_; show Q Exit.ret _ _; refine post_q hQ (by apply res_tmp; exact rfl; exact res_nil) (.inl rfl) (by exact .refl _) ?_; (conv => (lhs; whnf)); rotate_left; apply r_op; exact rfl; exact want_t rfl rfl rfl (by assumption)
  apply g_fieldAddr; exact a_fieldAddr1 rfl (by decide) rfl; apply r_op; exact rfl; exact want_t rfl rfl rfl (by assumption); apply g_load; exact a_load1 rfl rfl; apply r_op; exact rfl; exact want_t rfl rfl rfl (by assumption); apply g_fieldAddr; exact a_fieldAddr1 rfl (by decide) rfl; apply r_op; exact rfl; exact want_t rfl rfl rfl (by assumption); apply g_load; exact a_load1 rfl rfl; apply r_op
  exact rfl; exact want_t rfl rfl rfl (by assumption); apply g_binOp; exact a_binS rfl rfl rfl rfl; apply r_op; exact rfl; exact rfl; apply g_pick; apply a_pickF rfl (by assumption); (conv => (lhs; whnf)); apply r_op; exact rfl; exact rfl; apply a_move; (conv => (lhs; whnf)); refine q_split rfl rfl rfl (fun hg => ?_) (fun hg => ?_); apply q_skip; exact rfl; exact want_f rfl rfl rfl (by assumption)
  apply q_skip; exact rfl; exact want_f rfl rfl rfl (by assumption); apply q_skip; exact rfl; exact want_f rfl rfl rfl (by assumption); apply q_skip; exact rfl; exact want_f rfl rfl rfl (by assumption); apply q_skip; exact rfl; exact want_f rfl rfl rfl (by assumption); apply r_op; exact rfl; exact rfl; apply g_pick; apply a_pickT rfl (by assumption); (conv => (lhs; whnf)); apply r_op; exact rfl
  exact rfl; apply a_move; (conv => (lhs; whnf)); apply q_skip; exact rfl; exact want_f rfl rfl rfl (by exact rfl); apply q_skip; exact rfl; exact want_f rfl rfl rfl (by exact rfl); apply q_skip; exact rfl; exact want_f rfl rfl rfl (by exact rfl); apply q_skip; exact rfl; exact want_f rfl rfl rfl (by exact rfl); apply q_skip; exact rfl; exact want_f rfl rfl rfl (by exact rfl); apply r_op; exact rfl
  exact rfl; apply g_pick; apply a_pickT rfl (by exact rfl); (conv => (lhs; whnf)); apply r_op; exact rfl; exact rfl; apply a_move; (conv => (lhs; whnf)); apply q_skip; exact rfl; exact want_f rfl rfl rfl (by exact rfl); apply q_skip; exact rfl; exact want_f rfl rfl rfl (by exact rfl); apply q_skip; exact rfl; exact want_f rfl rfl rfl (by exact rfl); apply q_skip; exact rfl
  exact want_f rfl rfl rfl (by exact rfl); apply q_skip; exact rfl; exact want_f rfl rfl rfl (by exact rfl); apply r_op; exact rfl; exact rfl; apply g_pick; apply a_pickT rfl (by exact rfl); (conv => (lhs; whnf)); apply r_op; exact rfl; exact rfl; apply a_move; (conv => (lhs; whnf)); apply q_skip; exact rfl; exact want_f rfl rfl rfl (by exact rfl); apply q_skip; exact rfl
  exact want_f rfl rfl rfl (by exact rfl); apply q_skip; exact rfl; exact want_f rfl rfl rfl (by exact rfl); apply q_skip; exact rfl; exact want_f rfl rfl rfl (by exact rfl); apply q_skip; exact rfl; exact want_f rfl rfl rfl (by exact rfl); apply r_op; exact rfl; exact rfl; apply g_pick; apply a_pickT rfl (by exact rfl); (conv => (lhs; whnf)); apply r_op; exact rfl; exact rfl; apply a_move
  (conv => (lhs; whnf)); apply q_skip; exact rfl; exact want_f rfl rfl rfl (by exact rfl); apply q_skip; exact rfl; exact want_f rfl rfl rfl (by exact rfl); apply q_skip; exact rfl; exact want_f rfl rfl rfl (by exact rfl); apply q_skip; exact rfl; exact want_f rfl rfl rfl (by exact rfl); apply q_skip; exact rfl; exact want_f rfl rfl rfl (by exact rfl); apply q_skip; exact rfl
  exact want_f rfl rfl rfl (by exact rfl); apply q_skip; exact rfl; exact want_f rfl rfl rfl (by exact rfl); apply r_op; exact rfl; exact rfl; apply g_pick; apply a_pickT rfl (by exact rfl); (conv => (lhs; whnf)); (with_reducible refine runs_done ?_); refine W.condT rfl (by exact rfl) ?_; refine W.seq ?_; refine W.regionL (by decide +kernel) rfl ?_; apply r_op; exact rfl; exact rfl; apply a_assign
  (conv => (lhs; whnf)); (with_reducible refine runs_done ?_); refine W.ret ?_; show Q Exit.ret _ _; refine post_q hQ (by apply res_tmp; exact rfl; exact res_nil) (.inl rfl) (by exact .refl _) ?_; (conv => (lhs; whnf)); rotate_left; apply r_op; exact rfl; exact want_t rfl rfl rfl (by assumption); apply g_fieldAddr; exact a_fieldAddr1 rfl (by decide) rfl; apply r_op; exact rfl
  exact want_t rfl rfl rfl (by assumption); apply g_load; exact a_load1 rfl rfl; apply r_op; exact rfl; exact want_t rfl rfl rfl (by assumption); apply g_fieldAddr; exact a_fieldAddr1 rfl (by decide) rfl; apply r_op; exact rfl; exact want_t rfl rfl rfl (by assumption); apply g_load; exact a_load1 rfl rfl; apply r_op; exact rfl; exact want_t rfl rfl rfl (by assumption); apply g_binOp
  exact a_binI rfl rfl rfl; apply r_op; exact rfl; exact rfl; apply g_pick; apply a_pickF rfl (by assumption); (conv => (lhs; whnf)); apply r_op; exact rfl; exact rfl; apply a_move; (conv => (lhs; whnf)); refine q_split rfl rfl rfl (fun hg => ?_) (fun hg => ?_); apply q_skip; exact rfl; exact want_f rfl rfl rfl (by assumption); apply q_skip; exact rfl; exact want_f rfl rfl rfl (by assumption)
  apply q_skip; exact rfl; exact want_f rfl rfl rfl (by assumption); apply q_skip; exact rfl; exact want_f rfl rfl rfl (by assumption); apply q_skip; exact rfl; exact want_f rfl rfl rfl (by assumption); apply r_op; exact rfl; exact rfl; apply g_pick; apply a_pickT rfl (by assumption); (conv => (lhs; whnf)); apply r_op; exact rfl; exact rfl; apply a_move; (conv => (lhs; whnf)); apply q_skip
  exact rfl; exact want_f rfl rfl rfl (by exact rfl); apply q_skip; exact rfl; exact want_f rfl rfl rfl (by exact rfl); apply q_skip; exact rfl; exact want_f rfl rfl rfl (by exact rfl); apply q_skip; exact rfl; exact want_f rfl rfl rfl (by exact rfl); apply q_skip; exact rfl; exact want_f rfl rfl rfl (by exact rfl); apply r_op; exact rfl; exact rfl; apply g_pick; apply a_pickT rfl (by exact rfl)
  (conv => (lhs; whnf)); apply r_op; exact rfl; exact rfl; apply a_move; (conv => (lhs; whnf)); apply q_skip; exact rfl; exact want_f rfl rfl rfl (by exact rfl); apply q_skip; exact rfl; exact want_f rfl rfl rfl (by exact rfl); apply q_skip; exact rfl; exact want_f rfl rfl rfl (by exact rfl); apply q_skip; exact rfl; exact want_f rfl rfl rfl (by exact rfl); apply q_skip; exact rfl
  exact want_f rfl rfl rfl (by exact rfl); apply r_op; exact rfl; exact rfl; apply g_pick; apply a_pickT rfl (by exact rfl); (conv => (lhs; whnf)); apply r_op; exact rfl; exact rfl; apply a_move; (conv => (lhs; whnf)); apply q_skip; exact rfl; exact want_f rfl rfl rfl (by exact rfl); apply q_skip; exact rfl; exact want_f rfl rfl rfl (by exact rfl); apply q_skip; exact rfl
  exact want_f rfl rfl rfl (by exact rfl); apply q_skip; exact rfl; exact want_f rfl rfl rfl (by exact rfl); apply q_skip; exact rfl; exact want_f rfl rfl rfl (by exact rfl); apply q_skip; exact rfl; exact want_f rfl rfl rfl (by exact rfl); apply q_skip; exact rfl; exact want_f rfl rfl rfl (by exact rfl); apply r_op; exact rfl; exact rfl; apply g_pick; apply a_pickT rfl (by exact rfl)
  (conv => (lhs; whnf)); (with_reducible refine runs_done ?_); refine W.condT rfl (by exact rfl) ?_; refine W.seq ?_; refine W.regionL (by decide +kernel) rfl ?_; apply r_op; exact rfl; exact rfl; apply a_assign; (conv => (lhs; whnf)); (with_reducible refine runs_done ?_); refine W.ret ?_; show Q Exit.ret _ _
  refine post_q hQ (by apply res_tmp; exact rfl; exact res_nil) (.inl rfl) (by exact .refl _) ?_; (conv => (lhs; whnf)); rotate_left; apply r_op; exact rfl; exact want_t rfl rfl rfl (by assumption); apply g_fieldAddr; exact a_fieldAddr1 rfl (by decide) rfl; apply r_op; exact rfl; exact want_t rfl rfl rfl (by assumption); apply g_load; exact a_load1 rfl rfl; apply r_op; exact rfl
  exact want_t rfl rfl rfl (by assumption); apply g_fieldAddr; exact a_fieldAddr1 rfl (by decide) rfl; apply r_op; exact rfl; exact want_t rfl rfl rfl (by assumption); apply g_load; exact a_load1 rfl rfl; apply r_op; exact rfl; exact want_t rfl rfl rfl (by assumption); apply g_binOp; exact a_binI rfl rfl rfl; apply r_op; exact rfl; exact rfl; apply g_pick; apply a_pickF rfl (by assumption)
  (conv => (lhs; whnf)); apply r_op; exact rfl; exact rfl; apply a_move; (conv => (lhs; whnf)); refine q_split rfl rfl rfl (fun hg => ?_) (fun hg => ?_); apply q_skip; exact rfl; exact want_f rfl rfl rfl (by assumption); apply q_skip; exact rfl; exact want_f rfl rfl rfl (by assumption); apply q_skip; exact rfl; exact want_f rfl rfl rfl (by assumption); apply q_skip; exact rfl
  exact want_f rfl rfl rfl (by assumption); apply q_skip; exact rfl; exact want_f rfl rfl rfl (by assumption); apply r_op; exact rfl; exact rfl; apply g_pick; apply a_pickT rfl (by assumption); (conv => (lhs; whnf)); apply r_op; exact rfl; exact rfl; apply a_move; (conv => (lhs; whnf)); apply q_skip; exact rfl; exact want_f rfl rfl rfl (by exact rfl); apply q_skip; exact rfl
  exact want_f rfl rfl rfl (by exact rfl); apply q_skip; exact rfl; exact want_f rfl rfl rfl (by exact rfl); apply q_skip; exact rfl; exact want_f rfl rfl rfl (by exact rfl); apply q_skip; exact rfl; exact want_f rfl rfl rfl (by exact rfl); apply r_op; exact rfl; exact rfl; apply g_pick; apply a_pickT rfl (by exact rfl); (conv => (lhs; whnf)); apply r_op; exact rfl; exact rfl; apply a_move
  (conv => (lhs; whnf)); apply q_skip; exact rfl; exact want_f rfl rfl rfl (by exact rfl); apply q_skip; exact rfl; exact want_f rfl rfl rfl (by exact rfl); apply q_skip; exact rfl; exact want_f rfl rfl rfl (by exact rfl); apply q_skip; exact rfl; exact want_f rfl rfl rfl (by exact rfl); apply q_skip; exact rfl; exact want_f rfl rfl rfl (by exact rfl); apply q_skip; exact rfl
  exact want_f rfl rfl rfl (by exact rfl); apply q_skip; exact rfl; exact want_f rfl rfl rfl (by exact rfl); apply r_op; exact rfl; exact rfl; apply g_pick; apply a_pickT rfl (by exact rfl); (conv => (lhs; whnf)); (with_reducible refine runs_done ?_); refine W.condT rfl (by exact rfl) ?_; refine W.seq ?_; refine W.regionL (by decide +kernel) rfl ?_; apply r_op; exact rfl; exact rfl; apply a_assign
  (conv => (lhs; whnf)); (with_reducible refine runs_done ?_); refine W.ret ?_; show Q Exit.ret _ _; refine post_q hQ (by apply res_tmp; exact rfl; exact res_nil) (.inl rfl) (by exact .refl _) ?_; (conv => (lhs; whnf)); rotate_left; apply r_op; exact rfl; exact want_t rfl rfl rfl (by assumption); apply g_fieldAddr; exact a_fieldAddr1 rfl (by decide) rfl; apply r_op; exact rfl
  exact want_t rfl rfl rfl (by assumption); apply g_load; exact a_load1 rfl rfl; apply r_op; exact rfl; exact want_t rfl rfl rfl (by assumption); apply g_fieldAddr; exact a_fieldAddr1 rfl (by decide) rfl; apply r_op; exact rfl; exact want_t rfl rfl rfl (by assumption); apply g_load; exact a_load1 rfl rfl; apply r_op; exact rfl; exact want_t rfl rfl rfl (by assumption); apply g_binOp
  exact a_binI rfl rfl rfl; apply r_op; exact rfl; exact rfl; apply g_pick; apply a_pickF rfl (by assumption); (conv => (lhs; whnf)); apply r_op; exact rfl; exact rfl; apply a_move; (conv => (lhs; whnf)); refine q_split rfl rfl rfl (fun hg => ?_) (fun hg => ?_); apply q_skip; exact rfl; exact want_f rfl rfl rfl (by assumption); apply q_skip; exact rfl; exact want_f rfl rfl rfl (by assumption)
  apply q_skip; exact rfl; exact want_f rfl rfl rfl (by assumption); apply q_skip; exact rfl; exact want_f rfl rfl rfl (by assumption); apply q_skip; exact rfl; exact want_f rfl rfl rfl (by assumption); apply r_op; exact rfl; exact rfl; apply g_pick; apply a_pickT rfl (by assumption); (conv => (lhs; whnf)); apply r_op; exact rfl; exact rfl; apply a_move; (conv => (lhs; whnf)); apply q_skip
  exact rfl; exact want_f rfl rfl rfl (by exact rfl); apply q_skip; exact rfl; exact want_f rfl rfl rfl (by exact rfl); apply q_skip; exact rfl; exact want_f rfl rfl rfl (by exact rfl); apply q_skip; exact rfl; exact want_f rfl rfl rfl (by exact rfl); apply q_skip; exact rfl; exact want_f rfl rfl rfl (by exact rfl); apply q_skip; exact rfl; exact want_f rfl rfl rfl (by exact rfl); apply q_skip
  exact rfl; exact want_f rfl rfl rfl (by exact rfl); apply r_op; exact rfl; exact rfl; apply g_pick; apply a_pickT rfl (by exact rfl); (conv => (lhs; whnf)); (with_reducible refine runs_done ?_); refine W.condT rfl (by exact rfl) ?_; refine W.seq ?_; refine W.regionL (by decide +kernel) rfl ?_; apply r_op; exact rfl; exact rfl; apply a_assign; (conv => (lhs; whnf))
  (with_reducible refine runs_done ?_); refine W.ret ?_; show Q Exit.ret _ _; refine post_q hQ (by apply res_tmp; exact rfl; exact res_nil) (.inl rfl) (by exact .refl _) ?_; (conv => (lhs; whnf)); rotate_left; apply r_op; exact rfl; exact want_t rfl rfl rfl (by assumption); apply g_fieldAddr; exact a_fieldAddr1 rfl (by decide) rfl; apply r_op; exact rfl; exact want_t rfl rfl rfl (by assumption)
  apply g_load; exact a_load1 rfl rfl; apply r_op; exact rfl; exact want_t rfl rfl rfl (by assumption); apply g_fieldAddr; exact a_fieldAddr1 rfl (by decide) rfl; apply r_op; exact rfl; exact want_t rfl rfl rfl (by assumption); apply g_load; exact a_load1 rfl rfl; apply r_op; exact rfl; exact want_t rfl rfl rfl (by assumption); apply g_binOp; exact a_binS rfl rfl rfl rfl; apply r_op; exact rfl
  exact rfl; apply g_pick; apply a_pickF rfl (by assumption); (conv => (lhs; whnf)); apply r_op; exact rfl; exact rfl; apply a_move; (conv => (lhs; whnf)); refine q_split rfl rfl rfl (fun hg => ?_) (fun hg => ?_); apply q_skip; exact rfl; exact want_f rfl rfl rfl (by assumption); apply q_skip; exact rfl; exact want_f rfl rfl rfl (by assumption); apply q_skip; exact rfl
  exact want_f rfl rfl rfl (by assumption); apply q_skip; exact rfl; exact want_f rfl rfl rfl (by assumption); apply q_skip; exact rfl; exact want_f rfl rfl rfl (by assumption); apply q_skip; exact rfl; exact want_f rfl rfl rfl (by assumption); apply q_skip; exact rfl; exact want_f rfl rfl rfl (by assumption); apply r_op; exact rfl; exact rfl; apply g_pick; apply a_pickT rfl (by assumption)
  (conv => (lhs; whnf)); (with_reducible refine runs_done ?_); refine W.condT rfl (by exact rfl) ?_; refine W.seq ?_; refine W.regionL (by decide +kernel) rfl ?_; apply r_op; exact rfl; exact rfl; apply a_assign; (conv => (lhs; whnf)); (with_reducible refine runs_done ?_); refine W.ret ?_; show Q Exit.ret _ _
  refine post_q hQ (by apply res_tmp; exact rfl; exact res_nil) (.inl rfl) (by exact .refl _) ?_; (conv => (lhs; whnf)); rotate_left; apply r_op; exact rfl; exact want_t rfl rfl rfl (by assumption); apply g_fieldAddr; exact a_fieldAddr1 rfl (by decide) rfl; apply r_op; exact rfl; exact want_t rfl rfl rfl (by assumption); apply g_load; exact a_load1 rfl rfl; apply r_op; exact rfl
  exact want_t rfl rfl rfl (by assumption); apply g_call; exact a_len_slc rfl; apply r_op; exact rfl; exact want_t rfl rfl rfl (by assumption); apply g_fieldAddr; exact a_fieldAddr1 rfl (by decide) rfl; apply r_op; exact rfl; exact want_t rfl rfl rfl (by assumption); apply g_load; exact a_load1 rfl rfl; apply r_op; exact rfl; exact want_t rfl rfl rfl (by assumption); apply g_call
  exact a_len_slc rfl; apply r_op; exact rfl; exact want_t rfl rfl rfl (by assumption); apply g_binOp; exact a_binI rfl rfl rfl; apply r_op; exact rfl; exact rfl; apply g_pick; apply a_pickF rfl (by assumption); (conv => (lhs; whnf)); (with_reducible refine runs_done ?_); refine W.cond rfl (fun hc => ?_) (fun hc => ?_); refine W.seq ?_; refine W.regionL (by decide +kernel) rfl ?_; apply r_op
  exact rfl; exact rfl; apply a_assign; (conv => (lhs; whnf)); (with_reducible refine runs_done ?_); refine W.ret ?_; show Q Exit.ret _ _; refine post_q hQ (by apply res_tmp; exact rfl; exact res_nil) (.inl rfl) (by exact .refl _) ?_; (conv => (lhs; whnf)); rotate_left; refine W.skip ?_; show W _ _ _ _ _ _ _; refine W.seq ?_; refine W.seq ?_; refine W.regionL (by decide +kernel) rfl ?_; apply r_op
  exact rfl; exact rfl; apply a_assign; (conv => (lhs; whnf)); (with_reducible refine runs_done ?_); refine W.block ?_; rotate_left
  · have : ¬ x = y := fun e => by subst e; simp at hg
    simp [this]
  · have : ¬ x = y := fun e => by subst e; simp at hg
    simp [this]
  · have : ¬ x = y := fun e => by subst e; simp at hg
    simp [this]
  · have : ¬ x = y := fun e => by subst e; simp at hg
    simp [this]
  · have : ¬ x = y := fun e => by subst e; simp at hg
    simp [this]
  · have : ¬ x = y := fun e => by subst e; simp at hg
    simp [this]
  · have : ¬ x = y := fun e => by subst e; simp at hg
    simp [this]
  · have : ¬ x = y := fun e => by subst e; simp at hg
    simp [this]
  · have : ¬ x = y := fun e => by subst e; simp at hc
    simp [this]
  · have e1 : x.id = y.id := by simpa using ‹(!decide (x.id = y.id)) = false›
    have e2 : x.name = y.name := by simpa using ‹(!decide (x.name = y.name)) = false›
    have e3 : x.topic = y.topic := by simpa using ‹(!decide (x.topic = y.topic)) = false›
    have e4 : x.want = y.want := by simpa using ‹(!decide (x.want = y.want)) = false›
    have e5 : x.lease = y.lease := by simpa using ‹(!decide (x.lease = y.lease)) = false›
    have e6 : x.most = y.most := by simpa using ‹(!decide (x.most = y.most)) = false›
    have e7 : x.floor = y.floor := by simpa using ‹(!decide (x.floor = y.floor)) = false›
    have e8 : x.note = y.note := by simpa using ‹(!decide (x.note = y.note)) = false›
    have hlen : x.acks.length = y.acks.length := by simp at hc; omega
    · refine W.loop (fun k E s => ∃ i : Nat, i ≤ x.acks.length ∧ k = x.acks.length - i ∧ s = σ ∧ x.acks.take i = y.acks.take i ∧ Has [(2, .vp (eSub x)), (3, .vp (eSub y)), (5, .int .i64 i)] E) x.acks.length ⟨0, Nat.zero_le _, rfl, rfl, by simp, by exact Has.by (by repeat (first | exact trivial | refine ⟨by first | trivial | exact Weak.refl _ | exact Weak.tok _ _ _ | exact Weak.of_eq (congrArg (AV.int _) (by omega)) | exact Weak.of_eq (congrArg AV.bool (by fail)) | exact Weak.nils _ _ (.inr rfl), ?_⟩))⟩ ?_
      rintro k E s ⟨i, hi, rfl, rfl, htk, hE⟩; refine W.has hE ?_; clear hE hc; refine W.seq ?_; refine W.seq ?_; refine W.regionL (by decide +kernel) rfl ?_; apply r_op; exact rfl; exact rfl; apply a_move; (conv => (lhs; whnf)); apply r_op; exact rfl; exact rfl; apply g_fieldAddr; exact a_fieldAddr1 rfl (by decide) rfl; apply r_op; exact rfl; exact rfl; apply g_load; exact a_load1 rfl rfl
      apply r_op; exact rfl; exact rfl; apply g_call; exact a_len_slc rfl; apply r_op; exact rfl; exact rfl; apply g_binOp; exact a_binI rfl rfl rfl; (with_reducible refine runs_done ?_); refine W.cond rfl (fun hc => ?_) (fun hc => ?_)
      · have hlt : i < x.acks.length := by simp at hc; omega
        have ga : x.acks[i]? = some x.acks[i] := by simp [hlt]
        have gb : y.acks[i]? = some (y.acks[i]'(by omega)) := List.getElem?_eq_getElem (by omega)
        have ht := take_succ_iff hlt (show i < y.acks.length by omega) htk
        generalize x.acks[i] = a at ga ht
        generalize y.acks[i]'(by omega) = b at gb ht
        refine W.skip ?_; show W _ _ _ _ _ _ _; refine W.seq ?_; refine W.block ?_; refine W.seq ?_; refine W.regionDK 1 [] Ty.mixed (by decide +kernel) (by decide +kernel) rfl ?_; apply r_op; exact rfl; exact rfl; apply g_fieldAddr; exact a_fieldAddr1 rfl (by decide) rfl; apply r_op; exact rfl; exact rfl; apply g_load; exact a_load1 rfl rfl; apply r_op; exact rfl; exact rfl; apply a_move
        (conv => (lhs; whnf)); apply r_op; exact rfl; exact rfl; apply g_indexAddr; exact a_indexAddr rfl rfl (by decide) (by omega) (by exact get_map ga); apply r_op; exact rfl; exact rfl; apply g_load; exact a_load1 rfl rfl; apply r_op; exact rfl; exact rfl; apply g_fieldAddr; exact a_fieldAddr1 rfl (by decide) rfl; apply r_op; exact rfl; exact rfl; apply g_load; exact a_load1 rfl rfl; apply r_op
        exact rfl; exact rfl; apply a_move; (conv => (lhs; whnf)); apply r_op; exact rfl; exact rfl; apply g_indexAddr; exact a_indexAddr rfl rfl (by decide) (by omega) (by exact get_map gb); apply r_op; exact rfl; exact rfl; apply g_load; exact a_load1 rfl rfl; apply r_op; exact rfl; exact rfl; apply g_binOp; exact a_binI rfl rfl rfl; (with_reducible refine runs_done ?_)
        refine W.cond rfl (fun hc => ?_) (fun hc => ?_); refine W.seq ?_; refine W.regionL (by decide +kernel) rfl ?_; apply r_op; exact rfl; exact rfl; apply a_assign; (conv => (lhs; whnf)); (with_reducible refine runs_done ?_); refine W.ret ?_; show Q Exit.ret _ _; refine post_q hQ (by apply res_tmp; exact rfl; exact res_nil) (.inl rfl) (by exact .refl _) ?_; (conv => (lhs; whnf)); rotate_left
        refine W.skip ?_; show W _ _ _ _ _ _ _; refine W.regionL (by decide +kernel) rfl ?_; apply r_op; exact rfl; exact rfl; apply a_move; (conv => (lhs; whnf)); apply r_op; exact rfl; exact rfl; apply g_binOp; exact a_add64 rfl rfl (by omega); apply r_op; exact rfl; exact rfl; apply a_assign; (conv => (lhs; whnf)); (with_reducible refine runs_done ?_); rotate_left
        · have : ¬ x = y := fun e => by subst e; rw [ga] at gb; cases gb; simp at hc
          simp [this]
        · have hxy : a = b := by simpa using hc
          exact ⟨x.acks.length - (i + 1), by omega, i + 1, by omega, rfl, rfl, ht.2 hxy, by exact Has.by (by repeat (first | exact trivial | refine ⟨by first | trivial | exact Weak.refl _ | exact Weak.tok _ _ _ | exact Weak.of_eq (congrArg (AV.int _) (by omega)) | exact Weak.of_eq (congrArg AV.bool (by fail)) | exact Weak.nils _ _ (.inr rfl), ?_⟩))⟩
      · have hge : i = x.acks.length := by simp at hc; omega
        have e9 : x.acks = y.acks := by rw [hge, List.take_length, hlen, List.take_length] at htk; exact htk
        have : x = y ↔ x.queue = y.queue := ⟨fun h => by rw [h], fun h => sub_ext e1 e2 e3 e4 e5 e6 e7 e9 h e8⟩
        refine W.exit ?_; show W _ _ _ _ _ _ _; refine W.seq ?_; refine W.regionL (by decide +kernel) rfl ?_; apply r_op; exact rfl; exact rfl; apply g_fieldAddr; exact a_fieldAddr1 rfl (by decide) rfl; apply r_op; exact rfl; exact rfl; apply g_load; exact a_load1 rfl rfl; apply r_op; exact rfl; exact rfl; apply g_fieldAddr; exact a_fieldAddr1 rfl (by decide) rfl; apply r_op; exact rfl; exact rfl
        apply g_load; exact a_load1 rfl rfl; apply r_callP; exact rfl; exact rfl; exact rfl; exact rfl; exact rfl; infer_instance; exact sameMsgs_any w0 _ _ _ _ hq; apply r_op; exact rfl; exact rfl; apply a_assign; (conv => (lhs; whnf)); (with_reducible refine runs_done ?_); refine W.ret ?_; show Q Exit.ret _ _
        refine post_q hQ (by apply res_tmp; exact rfl; exact res_nil) (.inl rfl) (by exact .refl _) ?_; (conv => (lhs; whnf))
        simp [this]
end Go.Proofs.YtgliemhhnkhboaaGreatDoor
end
section
set_option linter.unusedVariables false
set_option linter.unusedSimpArgs false
set_option maxRecDepth 100000
set_option maxHeartbeats 2000000
namespace Go.Proofs.YtgliemhhnkhboaaGreatDoor
open Go.Al Go.RowKit
end Go.Proofs.YtgliemhhnkhboaaGreatDoor
end
section
set_option linter.unusedVariables false
set_option linter.unusedSimpArgs false
set_option maxRecDepth 100000
set_option maxHeartbeats 2000000
namespace Go.Proofs.YtgliemhhnkhboaaGreatDoor
open Go.Al Go.RowKit
end Go.Proofs.YtgliemhhnkhboaaGreatDoor
end
section
set_option linter.unusedVariables false
set_option linter.unusedSimpArgs false
set_option maxRecDepth 100000
namespace Go.Proofs.YtgliemhhnkhboaaGreatDoor
open Go.Al
theorem pcs_none {c : UInt8} : ∀ {l : List UInt8}, (∀ b ∈ l, b ≠ c) → pcs c l = [l]
  | [], _ => rfl
  | b :: l, h => by rw [pcs, if_neg (h b (by simp)), pcs_none fun d hd => h d (by simp [hd])]
theorem ix_none {c : UInt8} : ∀ {l : List UInt8}, (∀ b ∈ l, b ≠ c) → Lib.indexByte l c = -1
  | [], _ => rfl
  | b :: l, h => by
    have := h b (by simp)
    rw [Lib.indexByte, if_neg (by simpa using this), ix_none fun d hd => h d (by simp [hd])]; rfl
theorem low_word {l : List UInt8} (h : ∀ b ∈ l, 97 ≤ b.toNat ∧ b.toNat ≤ 122) (h0 : l ≠ []) : wordS l = true := by
  rw [wordS, Bool.and_eq_true, List.all_eq_true]
  exact ⟨fun b hb => by have := h b hb; simp [wordB, this], by simpa using h0⟩
theorem low_name {l : List UInt8} (h : ∀ b ∈ l, 97 ≤ b.toNat ∧ b.toNat ≤ 122) (h0 : l ≠ []) (hl : l.length ≤ 20) : nameT l = true := by
  have hn : ∀ b ∈ l, b ≠ 47 := fun b hb e => by have := h b hb; rw [e] at this; simp at this
  rw [nameT, rightT, pcs_none hn, ix_none hn]
  simp [low_word h h0, hl]; omega
theorem topic_pat {v : List UInt8} (h : TopicOk v) : patT v = true := by rcases h with rfl | rfl | rfl | rfl <;> decide
theorem want_attrs {v : List UInt8} (h : WantOk v) : attrsT v = true := by rcases h with rfl | rfl | rfl <;> decide
theorem attr_attrs {v : List UInt8} (h : v = [] ∨ v = [97, 61, 49] ∨ v = [98, 61, 50]) : attrsT v = true := by rcases h with rfl | rfl | rfl <;> decide
theorem letter_low (k i : Nat) : 97 ≤ (letter k i).toNat ∧ (letter k i).toNat ≤ 122 := by
  have h : (97 + (i + k) % 26) < 256 := by omega
  have e : (letter k i).toNat = 97 + (i + k) % 26 := by
    simp only [letter]
    rw [UInt8.toNat_ofNat']
    exact Nat.mod_eq_of_lt h
  rw [e]; omega
theorem Grown.nameOk {id clock next : Nat} {x : Sub} (h : Grown id clock next x) : nameT x.name = true := by
  obtain ⟨k, hk, e⟩ := h.name
  refine low_name (fun b hb => ?_) (by rw [e]; simp) h.nlen
  rw [e] at hb
  rcases List.mem_cons.1 hb with rfl | hb
  · decide
  · obtain ⟨i, _, rfl⟩ := List.mem_map.1 hb
    exact letter_low k i
theorem goodA_of {next : Int} : ∀ {l : List Int} {last : Int}, Rise last l → (∀ a ∈ l, a < next) → goodA next last l = true
  | [], _, _, _ => rfl
  | a :: l, last, h, hh => by
    have := hh a (by simp)
    have h1 := h.1
    rw [goodA, goodA_of h.2 fun b hb => hh b (by simp [hb]), Bool.and_true, btw]
    simp; omega
theorem goodQ_of {acks : List Int} {most lease clock next : Int} : ∀ {l : List Msg} {last : Int}, Rise last (l.map Msg.seq) → (∀ m ∈ l, m.seq < next) → (∀ m ∈ l, m.seq ∉ acks) → (∀ m ∈ l, msgT m most lease clock = true) → goodQ acks most lease clock next last l = true
  | [], _, _, _, _, _ => rfl
  | m :: l, last, h, hh, ha, hm => by
    have h2 := hh m (by simp)
    have h1 : last < m.seq := h.1
    rw [goodQ, goodQ_of h.2 (fun b hb => hh b (by simp [hb])) (fun b hb => ha b (by simp [hb])) (fun b hb => hm b (by simp [hb])), Bool.and_true, hm m (by simp), btw]
    simp [ha m (by simp)]; omega
theorem MsgOk.msgT {clock most lease : Int} {m : Msg} (hc : 0 ≤ clock) (h : MsgOk clock most lease m) : msgT m most lease clock = true := by
  have h1 := h.body
  have h2 := attr_attrs h.attr
  have h3 := h.prio
  rw [Go.Proofs.YtgliemhhnkhboaaGreatDoor.msgT, h2]
  simp only [btw, h1, h3.1, h3.2, decide_true, Bool.and_self, Bool.true_and]
  rcases h.st with ⟨e1, e2, e3, e4, e5⟩ | ⟨e1, e2, ⟨e3, e4⟩, e5, e6⟩ | ⟨e1, e2, e3, e4⟩
  · simp [e1, e2, e3, e4]; omega
  · rw [if_neg (by simp [e1]), if_neg (by simp [e2])]
    rw [if_neg (by omega)]; simp [e3, e4, e5, e6]
  · rcases e4 with e4 | e4 <;> simp [e1, e2, e3, e4]
theorem Grown.good {id clock next : Nat} {x : Sub} (h : Grown id clock next x) (h1 : 1 ≤ id) (h2 : id ≤ 1073741824) : goodT x clock next = true := by
  have e1 := h.nameOk
  have e2 := topic_pat h.topic
  have e3 := want_attrs h.want
  have e4 := h.note
  have e5 := h.id
  have e6 := h.most
  have e7 := h.lease
  have e8 := h.floor
  have e9 := h.nacks
  have e10 := h.nqueue
  rw [goodT, goodA_of h.rise h.high, goodQ_of h.qrise h.qhigh (fun m hm hk => h.apart _ hk m hm rfl) (fun m hm => (h.msgs m hm).msgT (by omega)), fieldsT, e1, e2, e3]
  simp only [btw, Bool.true_and, Bool.and_true, Bool.and_eq_true, decide_eq_true_eq]
  omega
theorem Rise.filter {l : List Int} (p : Int → Bool) : ∀ {lo : Int}, Rise lo l → Rise lo (l.filter p) := by
  induction l with
  | nil => exact fun h => h
  | cons a l ih =>
    intro lo h
    rw [List.filter_cons]
    split
    · exact ⟨h.1, ih h.2⟩
    · refine ih ?_
      have h1 := h.1
      have h2 := h.2
      cases l with
      | nil => trivial
      | cons b l => exact ⟨by have := h2.1; omega, h2.2⟩
theorem Rise.up : ∀ {l : List Int} {lo hi : Int}, Rise lo l → (∀ a ∈ l, hi < a) → Rise hi l
  | [], _, _, _, _ => trivial
  | a :: l, lo, hi, h, k => ⟨k a (by simp), h.2⟩
end Go.Proofs.YtgliemhhnkhboaaGreatDoor
end
section
set_option linter.unusedVariables false
set_option linter.unusedSimpArgs false
namespace Go.Proofs.YtgliemhhnkhboaaGreatDoor
open Go.Al
def refPut (x : Sub) : List Sub → Bool → List Sub
  | [], laid => if laid = true then [] else [x]
  | y :: l, laid => if laid = false ∧ x.id < y.id then x :: y :: refPut x l true else y :: refPut x l laid
theorem refPut_true (x : Sub) : ∀ l, refPut x l true = l
  | [] => rfl
  | y :: l => by rw [refPut, if_neg (by simp), refPut_true x l]
theorem refPut_false (x : Sub) : ∀ l, refPut x l false = upto l x.id ++ x :: beyond l x.id
  | [] => rfl
  | y :: l => by
    by_cases h : x.id < y.id
    · rw [refPut, if_pos ⟨rfl, h⟩, refPut_true]
      simp [upto, beyond, h]
    · rw [refPut, if_neg (by simp [h]), refPut_false x l]
      have h' : y.id ≤ x.id := by omega
      simp [upto, beyond, h]
theorem putS_ref (l : List Sub) (x : Sub) : putS l x = refPut x (wo l x.id) false := by rw [refPut_false]; rfl
structure GrownS (ck nx ls : Nat) (s : Stt) : Prop where
  clock : s.clock = ck
  ckle : ck ≤ 2000
  next : s.next = nx
  nxle : 1 ≤ nx ∧ nx ≤ 100
  last : s.last = ls
  lsle : ls ≤ 7
  asc : Asc s.subs
  subs : ∀ x ∈ s.subs, ∃ id, Grown id ck nx x ∧ 1 ≤ id ∧ id ≤ ls
theorem asc_len {lo : Int} : ∀ {l : List Sub} {hi : Int}, Asc l → (∀ x ∈ l, lo < x.id ∧ x.id ≤ hi) → (l.length : Int) ≤ max 0 (hi - lo) := by
  intro l
  induction l generalizing lo with
  | nil => intro hi _ _; simp; omega
  | cons y l ih =>
    intro hi h hb
    have h1 := List.pairwise_cons.1 h
    have hy := hb y (by simp)
    have := ih (lo := y.id) (hi := hi) h1.2 fun x hx => ⟨h1.1 x hx, (hb x (by simp [hx])).2⟩
    rw [List.length_cons]
    omega
theorem GrownS.len {ck nx ls : Nat} {s : Stt} (h : GrownS ck nx ls s) : s.subs.length ≤ 7 := by
  have := asc_len (lo := 0) (hi := ls) h.asc fun x hx => by
    obtain ⟨id, hg, h1, h2⟩ := h.subs x hx
    rw [hg.id]; omega
  have := h.lsle
  omega
theorem GrownS.fine {ck nx ls : Nat} {s : Stt} (h : GrownS ck nx ls s) : Fine s.subs := ⟨by have := h.len; omega, fun x hx => by
  obtain ⟨id, hg, _⟩ := h.subs x hx
  have := hg.nacks; omega, fun x hx => by
  obtain ⟨id, hg, _⟩ := h.subs x hx
  have := hg.nqueue; omega⟩
theorem GrownS.put {ck nx ls id : Nat} {s : Stt} (h : GrownS ck nx ls s) {x : Sub} (hx : Grown id ck nx x) (h1 : 1 ≤ id) (h2 : id ≤ ls) : GrownS ck nx ls { s with subs := putS s.subs x } :=
  ⟨h.clock, h.ckle, h.next, h.nxle, h.last, h.lsle, h.asc.put x, fun y hy => by
    rcases mem_put.1 hy with rfl | ⟨hy, _⟩
    · exact ⟨id, hx, h1, h2⟩
    · exact h.subs y hy⟩
end Go.Proofs.YtgliemhhnkhboaaGreatDoor
end
section
set_option linter.unusedVariables false
set_option linter.unusedSimpArgs false
set_option maxRecDepth 100000
set_option maxHeartbeats 400000
namespace Go.Proofs.YtgliemhhnkhboaaGreatDoor
open Go.Al Go.RowKit
end Go.Proofs.YtgliemhhnkhboaaGreatDoor
end
section
set_option linter.unusedVariables false
set_option linter.unusedSimpArgs false
set_option maxRecDepth 100000
set_option maxHeartbeats 1000000
namespace Go.Proofs.YtgliemhhnkhboaaGreatDoor
open Go.Al Go.RowKit
def preR (x : Sub) : List Row := if x.acks = [] then [] else [⟨rkey 3 97 x.id 0, acksB x⟩]
end Go.Proofs.YtgliemhhnkhboaaGreatDoor
end
