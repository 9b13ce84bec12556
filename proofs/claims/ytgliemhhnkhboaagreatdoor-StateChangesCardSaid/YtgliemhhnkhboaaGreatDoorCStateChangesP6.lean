/- The law StateChanges returns true for every input, and its arguments read as before: the tied card. No conditions. This is part 6 of 7 of its proof; the parts are read in order. No conditions. -/
import Derived.Test.YtgliemhhnkhboaaGreatDoorCStateChangesP5
import Derived.ProofKit
section
set_option linter.unusedVariables false
set_option linter.unusedSimpArgs false
set_option maxRecDepth 100000
set_option maxHeartbeats 2000000
namespace Go.Proofs.YtgliemhhnkhboaaGreatDoor
open Go.Al Go.RowKit
theorem refFind_any (w0 : Base) (s : Stt) (id : Int) (hf : Fine s.subs) : CallP Tryz.prog w0 40 [eStt s, .int .i64 id] (findR (fnd s.subs id)) := by
  refine CallP.h Ty.tok Ty.mixed Tryz.func40 rfl Tryz.ntmps40 rfl (by simp) (by decide +kernel) fun σ => ?_
  obtain ⟨clock, next, last, l⟩ := s
  dsimp only at hf ⊢
  have hn := hf.n
  (conv => whnf); refine Hid.seq ?_; refine Hid.reg ?_; (conv => whnf); refine SBox.f ?_; (conv => whnf); intro b4 hb4; (conv => whnf); refine Hid.seq ?_; refine Hid.seq ?_; refine Hid.reg ?_; (conv => whnf); refine Hid.block ?_; refine Hid.loop ?_
  refine SLoop.by Ty.mixed (fun i : Nat => l.length - i) (fun i => [(1, .int .i64 id), (2, .vp (eStt ⟨clock, next, last, l⟩)), (4, .ptr b4 0), (5, .bool false), (6, .int .i64 i)]) (fun _ => [(b4, [.int .i64 0, .str [], .str [], .str [], .int .i64 0, .int .i64 0, .int .i64 0, .nils, .nils, .str []])]) (fun i τ => i ≤ l.length ∧ fnd (l.drop i) id = fnd l id ∧ St.Le σ τ) 0 ⟨by repeat (first | exact trivial | refine ⟨by first | trivial | exact Weak.refl _ | exact Weak.tok _ _ _ | exact Weak.of_eq (congrArg (AV.int _) (by omega)) | exact Weak.of_eq (congrArg AV.bool (by fail)) | exact Weak.nils _ _ (.inr rfl), ?_⟩), .refl _, Nat.zero_le _, rfl, le_new (.refl _) hb4⟩ ?_
  rintro i τ ⟨hi, hd, hle⟩
  have hml : (l.map eSub).length = l.length := by simp
  by_cases hlt : i < l.length
  · have ga : (l.map eSub)[i]? = some (eSub l[i]) := by simp [hlt]
    rw [List.drop_eq_getElem_cons hlt, fnd, List.find?_cons] at hd
    generalize l[i] = x at *
    refine Xc_h ?_; (conv => whnf); refine Hid.seq ?_; refine Hid.seq ?_; refine Hid.reg ?_; (conv => whnf); refine Hid.cond rfl ?_
    skip
    refine SIf.y Ty.mixed (decide_eq_true (by rw [hml]; omega)) ?_; refine Xc_h ?_; (conv => whnf); refine Hid.skip ?_; (conv => whnf); refine Hid.seq ?_; refine Hid.seq ?_; refine Hid.reg ?_; (conv => whnf)
    refine ⟨_, ⟨by first | omega | (rw [hml]; omega) | (simp only [hml]; omega) | fail, by exact ga⟩, ?_⟩
    (conv => whnf); refine Hid.cond rfl ?_
    by_cases he : x.id = id
    · refine SIf.y Ty.mixed (by simp [he]) ?_
      refine Xc_h ?_; (conv => whnf); refine Hid.seq ?_; refine Hid.reg ?_; (conv => whnf)
      refine ⟨_, ⟨by first | omega | (rw [hml]; omega) | (simp only [hml]; omega) | fail, by exact ga⟩, ?_⟩
      (conv => whnf); refine SStore.on 0 rfl ?_; (conv => whnf); refine Hid.ret ?_; (conv => whnf); refine SLoad.on 0 rfl ?_; (conv => whnf)
      rw [decide_eq_true he] at hd
      dsimp only at hd
      rw [← hd]
      exact .p (by repeat (first | assumption | refine le_setBox ?_ (by assumption))) rfl
    · refine SIf.n Ty.mixed (by simp [he]) ?_
      refine Xc_h ?_; (conv => whnf); refine Hid.skip ?_; (conv => whnf); refine Hid.reg ?_; (conv => whnf); refine ⟨_, IntWalk.i64_in _ (by omega), ?_⟩; (conv => whnf)
      rw [decide_eq_false he] at hd
      exact ⟨i + 1, by omega, by repeat (first | exact trivial | refine ⟨by first | trivial | exact Weak.refl _ | exact Weak.tok _ _ _ | exact Weak.of_eq (congrArg (AV.int _) (by omega)) | exact Weak.of_eq (congrArg AV.bool (by fail)) | exact Weak.nils _ _ (.inr rfl), ?_⟩), .refl _, hlt, hd, hle⟩
  · have hge : i = l.length := by omega
    refine Xc_h ?_; (conv => whnf); refine Hid.seq ?_; refine Hid.seq ?_; refine Hid.reg ?_; (conv => whnf); refine Hid.cond rfl ?_
    skip
    refine SIf.n Ty.mixed (decide_eq_false (by rw [hml]; omega)) ?_; refine Xc_h ?_; (conv => whnf); refine Hid.exit ?_; (conv => whnf); refine Hid.seq ?_; refine Hid.reg ?_; (conv => whnf); refine SStore.on 0 rfl ?_; (conv => whnf); refine Hid.ret ?_; (conv => whnf); refine SLoad.on 0 rfl ?_; (conv => whnf)
    have hn0 : fnd l id = none := by rw [← hd, hge, List.drop_length]; rfl
    rw [hn0]
    exact .v (by repeat (first | assumption | refine le_setBox ?_ (by assumption))) (.tup (.cons weak_sub0 (.cons (.refl _) .nil)))
theorem over_take {fl : Int} {l : List Int} {i : Nat} {a : Int} (h : l[i]? = some a) : over fl (l.take (i + 1)) = if a ≤ fl then over fl (l.take i) else over fl (l.take i) ++ [a] := by
  obtain ⟨hi, e⟩ := List.getElem?_eq_some_iff.1 h
  rw [List.take_succ_eq_append_getElem hi, e, over, List.filter_append]
  by_cases hx : a ≤ fl
  · rw [if_pos hx]; simp [over, hx]
  · rw [if_neg hx]; simp [over, hx]
def ovr (fl : Int) (l : List Int) (i : Nat) : List AV := (over fl (l.take i)).map (.int .i64)
theorem ovr_len (fl : Int) (l : List Int) (i : Nat) : (ovr fl l i).length ≤ l.length := by
  rw [ovr, List.length_map]
  exact Nat.le_trans (List.length_filter_le _ _) (List.length_take_le' _ _)
theorem ovr_all (fl : Int) (l : List Int) : ovr fl l l.length = (over fl l).map (.int .i64) := by rw [ovr, List.take_length]
theorem refSettle_any (w0 : Base) (x : Sub) (next : Int) (ha : x.acks.length ≤ 17592186043904) (hq : x.queue.length ≤ 1599289640354) : CallP Tryz.prog w0 43 [eSub x, .int .i64 next] (eSub (settleS x next)) := fun σ => by
  obtain ⟨id, name, topic, want, lease, most, floor, acks, queue, note⟩ := x
  dsimp only at ha hq
  obtain ⟨fl, hfl⟩ : ∃ fl, fl = settleF ⟨id, name, topic, want, lease, most, floor, acks, queue, note⟩ next := ⟨_, rfl⟩
  rw [settleS, ← hfl]
  dsimp only
  refine CallW.h (B := []) Ty.tok Ty.mixed Tryz.func43 rfl Tryz.ntmps43 rfl (by simp) (by decide +kernel) (.nil σ) ?_; (conv => whnf); refine Hid.seq ?_; refine Hid.reg ?_; (conv => whnf); refine SBox.b rfl ?_; (conv => whnf); intro b2 hb2
  cases queue with
  | nil =>
    (conv => whnf); intro b4 hb4; (conv => whnf); refine Hid.seq ?_; refine Hid.reg ?_; (conv => whnf); refine Hid.seq ?_; refine Hid.seq ?_; refine Hid.reg ?_; (conv => whnf); refine SLoad.on 1 rfl ?_; (conv => whnf); refine Hid.cond rfl ?_; refine SIf.n Ty.mixed (by exact rfl) ?_; refine Xc_h ?_; (conv => whnf); refine Hid.skip ?_; (conv => whnf); refine Hid.seq ?_; refine Hid.reg ?_
    (conv => whnf); refine SLoad.on 1 rfl ?_; (conv => whnf); refine ⟨_, rfl, ?_⟩; (conv => whnf); refine SStore.on 1 rfl ?_; (conv => whnf); refine Hid.seq ?_; refine Hid.reg ?_; (conv => whnf); refine Hid.seq ?_; refine Hid.seq ?_; refine Hid.reg ?_; (conv => whnf); refine Hid.block ?_; refine Hid.loop ?_
    have h4 := le_none (le_new (.refl _) hb2) hb4
    have hle0 : St.Le σ (((σ.setBox b2 [.int .i64 id, .str name, .str topic, .str want, .int .i64 lease, .int .i64 most, .int .i64 floor, eInts acks, eMsgs [], .str note]).setBox b4 [.int .i64 0, .str [], .str [], .str [], .int .i64 0, .int .i64 0, .int .i64 0, .nils, .nils, .str []]).setBox b2 [.int .i64 id, .str name, .str topic, .str want, .int .i64 lease, .int .i64 most, .int .i64 fl, eInts acks, eMsgs [], .str note]) := le_setBox (le_setBox (le_setBox (.refl _) hb2) h4) hb2
    refine SLoop.by Ty.mixed (fun ((i, tk) : Nat × Tok) => acks.length - i) (fun (i, tk) => [(2, .ptr b2 0), (4, .ptr b4 0), (6, .slc 1 (ovr fl acks i) tk), (7, .int .i64 i)]) (fun _ => [(b4, [.int .i64 0, .str [], .str [], .str [], .int .i64 0, .int .i64 0, .int .i64 0, .nils, .nils, .str []]), (b2, [.int .i64 id, .str name, .str topic, .str want, .int .i64 lease, .int .i64 most, .int .i64 fl, eInts acks, eMsgs [], .str note])])
      (fun (i, tk) τ => i ≤ acks.length ∧ Moves (((σ.setBox b2 [.int .i64 id, .str name, .str topic, .str want, .int .i64 lease, .int .i64 most, .int .i64 floor, eInts acks, eMsgs [], .str note]).setBox b4 [.int .i64 0, .str [], .str [], .str [], .int .i64 0, .int .i64 0, .int .i64 0, .nils, .nils, .str []]).setBox b2 [.int .i64 id, .str name, .str topic, .str want, .int .i64 lease, .int .i64 most, .int .i64 fl, eInts acks, eMsgs [], .str note]) .full τ tk) (0, .full) ?_ ?_
    · subst hfl; exact ⟨by repeat (first | exact trivial | refine ⟨by first | trivial | exact Weak.refl _ | exact Weak.tok _ _ _ | exact Weak.of_eq (congrArg (AV.int _) (by omega)) | exact Weak.of_eq (congrArg AV.bool (by fail)) | exact Weak.nils _ _ (.inr rfl), ?_⟩), .refl _, Nat.zero_le _, .full _⟩
    clear hfl; rintro ⟨i, tk⟩ τ ⟨hi, hm⟩
    have hml : (acks.map (AV.int .i64)).length = acks.length := by simp
    by_cases hlt : i < acks.length
    · have ga : (acks.map (AV.int .i64))[i]? = some (.int .i64 acks[i]) := by simp [hlt]
      have hov := over_take (fl := fl) (List.getElem?_eq_getElem hlt)
      have hol := ovr_len fl acks i
      generalize acks[i] = a at *
      have e1 : ¬ a ≤ fl → ovr fl acks (i + 1) = ovr fl acks i ++ [.int .i64 a] := fun h => by rw [ovr, hov, if_neg h, List.map_append]; rfl
      have e2 : a ≤ fl → ovr fl acks (i + 1) = ovr fl acks i := fun h => by rw [ovr, hov, if_pos h]; rfl
      refine Xc_h ?_; (conv => whnf); refine Hid.seq ?_; refine Hid.seq ?_; refine Hid.reg ?_; (conv => whnf); refine SLoad.on 1 rfl ?_; (conv => whnf); refine Hid.cond rfl ?_; refine SIf.y Ty.mixed (decide_eq_true (by rw [hml]; omega)) ?_; refine Xc_h ?_; (conv => whnf); refine Hid.skip ?_; (conv => whnf); refine Hid.seq ?_; refine Hid.seq ?_; refine Hid.regD ?_
      refine SReg.t 1 [] (by decide +kernel) ?_; (conv => whnf); (conv => whnf); refine SLoad.on 1 rfl ?_; (conv => whnf)
      refine ⟨_, ⟨by first | omega | (rw [hml]; omega) | (simp only [hml]; omega) | fail, by exact ga⟩, ?_⟩
      (conv => whnf); refine SLoad.on 1 rfl ?_; (conv => whnf); refine Hid.cond rfl ?_
      by_cases he : a ≤ fl
      · refine SIf.n Ty.mixed (decide_eq_false (by omega)) ?_
        refine Xc_h ?_; (conv => whnf); refine Hid.skip ?_; (conv => whnf); refine Hid.reg ?_; (conv => whnf); refine ⟨_, IntWalk.i64_in _ (by omega), ?_⟩; (conv => whnf)
        exact ⟨(i + 1, tk), by show acks.length - (i + 1) < acks.length - i; omega, by show xWeak [(2, .ptr b2 0), (4, .ptr b4 0), (6, .slc 1 (ovr fl acks (i + 1)) tk), (7, .int .i64 (i + 1 : Nat))] _; rw [e2 he]; repeat (first | exact trivial | refine ⟨by first | trivial | exact Weak.refl _ | exact Weak.tok _ _ _ | exact Weak.of_eq (congrArg (AV.int _) (by omega)) | exact Weak.of_eq (congrArg AV.bool (by fail)) | exact Weak.nils _ _ (.inr rfl), ?_⟩), .refl _, hlt, hm⟩
      · refine SIf.y Ty.mixed (decide_eq_true (by omega)) ?_
        refine Xc_h ?_; (conv => whnf); refine Hid.reg ?_; (conv => whnf); refine SLoad.on 1 rfl ?_; (conv => whnf)
        refine ⟨_, ⟨by first | omega | (rw [hml]; omega) | (simp only [hml]; omega) | fail, by exact ga⟩, ?_⟩
        (conv => whnf)
        refine SApp.c rfl rfl (by assumption) (by simp only [List.length_cons, List.length_nil]; omega) fun tk1 σ1 hm => ?_
        (conv => whnf); refine Hid.reg ?_; (conv => whnf); refine ⟨_, IntWalk.i64_in _ (by omega), ?_⟩; (conv => whnf)
        exact ⟨(i + 1, tk1), by show acks.length - (i + 1) < acks.length - i; omega, by show xWeak [(2, .ptr b2 0), (4, .ptr b4 0), (6, .slc 1 (ovr fl acks (i + 1)) tk1), (7, .int .i64 (i + 1 : Nat))] _; rw [e1 he]; repeat (first | exact trivial | refine ⟨by first | trivial | exact Weak.refl _ | exact Weak.tok _ _ _ | exact Weak.of_eq (congrArg (AV.int _) (by omega)) | exact Weak.of_eq (congrArg AV.bool (by fail)) | exact Weak.nils _ _ (.inr rfl), ?_⟩), .refl _, hlt, by assumption⟩
    · have hge : i = acks.length := by omega
      subst hge
      refine Xc_h ?_; (conv => whnf); refine Hid.seq ?_; refine Hid.seq ?_; refine Hid.reg ?_; (conv => whnf); refine SLoad.on 1 rfl ?_; (conv => whnf); refine Hid.cond rfl ?_; refine SIf.n Ty.mixed (decide_eq_false (by rw [hml]; omega)) ?_; refine Xc_h ?_; (conv => whnf); refine Hid.exit ?_; (conv => whnf); refine Hid.seq ?_; refine Hid.reg ?_; (conv => whnf); refine SStore.on 1 rfl ?_
      (conv => whnf); refine Hid.seq ?_; refine Hid.reg ?_; (conv => whnf); refine SLoad.on 1 rfl ?_; (conv => whnf); refine SStore.on 0 rfl ?_; (conv => whnf); refine Hid.ret ?_; (conv => whnf); refine SLoad.on 0 rfl ?_; (conv => whnf); refine .v (le_setBox (le_setBox (hle0.trans hm.le) hb2) h4) ?_
      rw [ovr_all]
      exact .agg (.cons (.refl _) (.cons (.refl _) (.cons (.refl _) (.cons (.refl _) (.cons (.refl _) (.cons (.refl _) (.cons (.refl _) (.cons (.tok _ _ _) (.cons (.refl _) (.cons (.refl _) .nil)))))))))) (by simp [AV.one, eMsgs, eInts])
  | cons m q =>
    (conv => whnf); intro b4 hb4; (conv => whnf); refine Hid.seq ?_; refine Hid.reg ?_; (conv => whnf); refine Hid.seq ?_; refine Hid.seq ?_; refine Hid.reg ?_; (conv => whnf); refine SLoad.on 1 rfl ?_; (conv => whnf); refine Hid.cond rfl ?_; refine SIf.y Ty.mixed (decide_eq_true (by simp)) ?_; refine Xc_h ?_; (conv => whnf); refine Hid.reg ?_; (conv => whnf); refine SLoad.on 1 rfl ?_
    (conv => whnf)
    refine ⟨_, ⟨by first | omega | simp, by exact rfl⟩, ?_⟩
    (conv => whnf); refine Hid.seq ?_; refine Hid.reg ?_; (conv => whnf); refine SLoad.on 1 rfl ?_; (conv => whnf); refine ⟨_, rfl, ?_⟩; (conv => whnf); refine SStore.on 1 rfl ?_; (conv => whnf); refine Hid.seq ?_; refine Hid.reg ?_; (conv => whnf); refine Hid.seq ?_; refine Hid.seq ?_; refine Hid.reg ?_; (conv => whnf); refine Hid.block ?_; refine Hid.loop ?_
    have h4 := le_none (le_new (.refl _) hb2) hb4
    have hle0 : St.Le σ (((σ.setBox b2 [.int .i64 id, .str name, .str topic, .str want, .int .i64 lease, .int .i64 most, .int .i64 floor, eInts acks, eMsgs (m :: q), .str note]).setBox b4 [.int .i64 0, .str [], .str [], .str [], .int .i64 0, .int .i64 0, .int .i64 0, .nils, .nils, .str []]).setBox b2 [.int .i64 id, .str name, .str topic, .str want, .int .i64 lease, .int .i64 most, .int .i64 fl, eInts acks, eMsgs (m :: q), .str note]) := le_setBox (le_setBox (le_setBox (.refl _) hb2) h4) hb2
    refine SLoop.by Ty.mixed (fun ((i, tk) : Nat × Tok) => acks.length - i) (fun (i, tk) => [(2, .ptr b2 0), (4, .ptr b4 0), (6, .slc 1 (ovr fl acks i) tk), (7, .int .i64 i)]) (fun _ => [(b4, [.int .i64 0, .str [], .str [], .str [], .int .i64 0, .int .i64 0, .int .i64 0, .nils, .nils, .str []]), (b2, [.int .i64 id, .str name, .str topic, .str want, .int .i64 lease, .int .i64 most, .int .i64 fl, eInts acks, eMsgs (m :: q), .str note])])
      (fun (i, tk) τ => i ≤ acks.length ∧ Moves (((σ.setBox b2 [.int .i64 id, .str name, .str topic, .str want, .int .i64 lease, .int .i64 most, .int .i64 floor, eInts acks, eMsgs (m :: q), .str note]).setBox b4 [.int .i64 0, .str [], .str [], .str [], .int .i64 0, .int .i64 0, .int .i64 0, .nils, .nils, .str []]).setBox b2 [.int .i64 id, .str name, .str topic, .str want, .int .i64 lease, .int .i64 most, .int .i64 fl, eInts acks, eMsgs (m :: q), .str note]) .full τ tk) (0, .full) ?_ ?_
    · subst hfl; exact ⟨by repeat (first | exact trivial | refine ⟨by first | trivial | exact Weak.refl _ | exact Weak.tok _ _ _ | exact Weak.of_eq (congrArg (AV.int _) (by omega)) | exact Weak.of_eq (congrArg AV.bool (by fail)) | exact Weak.nils _ _ (.inr rfl), ?_⟩), .refl _, Nat.zero_le _, .full _⟩
    clear hfl; rintro ⟨i, tk⟩ τ ⟨hi, hm⟩
    have hml : (acks.map (AV.int .i64)).length = acks.length := by simp
    by_cases hlt : i < acks.length
    · have ga : (acks.map (AV.int .i64))[i]? = some (.int .i64 acks[i]) := by simp [hlt]
      have hov := over_take (fl := fl) (List.getElem?_eq_getElem hlt)
      have hol := ovr_len fl acks i
      generalize acks[i] = a at *
      have e1 : ¬ a ≤ fl → ovr fl acks (i + 1) = ovr fl acks i ++ [.int .i64 a] := fun h => by rw [ovr, hov, if_neg h, List.map_append]; rfl
      have e2 : a ≤ fl → ovr fl acks (i + 1) = ovr fl acks i := fun h => by rw [ovr, hov, if_pos h]; rfl
      refine Xc_h ?_; (conv => whnf); refine Hid.seq ?_; refine Hid.seq ?_; refine Hid.reg ?_; (conv => whnf); refine SLoad.on 1 rfl ?_; (conv => whnf); refine Hid.cond rfl ?_; refine SIf.y Ty.mixed (decide_eq_true (by rw [hml]; omega)) ?_; refine Xc_h ?_; (conv => whnf); refine Hid.skip ?_; (conv => whnf); refine Hid.seq ?_; refine Hid.seq ?_; refine Hid.regD ?_
      refine SReg.t 1 [] (by decide +kernel) ?_; (conv => whnf); (conv => whnf); refine SLoad.on 1 rfl ?_; (conv => whnf)
      refine ⟨_, ⟨by first | omega | (rw [hml]; omega) | (simp only [hml]; omega) | fail, by exact ga⟩, ?_⟩
      (conv => whnf); refine SLoad.on 1 rfl ?_; (conv => whnf); refine Hid.cond rfl ?_
      by_cases he : a ≤ fl
      · refine SIf.n Ty.mixed (decide_eq_false (by omega)) ?_
        refine Xc_h ?_; (conv => whnf); refine Hid.skip ?_; (conv => whnf); refine Hid.reg ?_; (conv => whnf); refine ⟨_, IntWalk.i64_in _ (by omega), ?_⟩; (conv => whnf)
        exact ⟨(i + 1, tk), by show acks.length - (i + 1) < acks.length - i; omega, by show xWeak [(2, .ptr b2 0), (4, .ptr b4 0), (6, .slc 1 (ovr fl acks (i + 1)) tk), (7, .int .i64 (i + 1 : Nat))] _; rw [e2 he]; repeat (first | exact trivial | refine ⟨by first | trivial | exact Weak.refl _ | exact Weak.tok _ _ _ | exact Weak.of_eq (congrArg (AV.int _) (by omega)) | exact Weak.of_eq (congrArg AV.bool (by fail)) | exact Weak.nils _ _ (.inr rfl), ?_⟩), .refl _, hlt, hm⟩
      · refine SIf.y Ty.mixed (decide_eq_true (by omega)) ?_
        refine Xc_h ?_; (conv => whnf); refine Hid.reg ?_; (conv => whnf); refine SLoad.on 1 rfl ?_; (conv => whnf)
        refine ⟨_, ⟨by first | omega | (rw [hml]; omega) | (simp only [hml]; omega) | fail, by exact ga⟩, ?_⟩
        (conv => whnf)
        refine SApp.c rfl rfl (by assumption) (by simp only [List.length_cons, List.length_nil]; omega) fun tk1 σ1 hm => ?_
        (conv => whnf); refine Hid.reg ?_; (conv => whnf); refine ⟨_, IntWalk.i64_in _ (by omega), ?_⟩; (conv => whnf)
        exact ⟨(i + 1, tk1), by show acks.length - (i + 1) < acks.length - i; omega, by show xWeak [(2, .ptr b2 0), (4, .ptr b4 0), (6, .slc 1 (ovr fl acks (i + 1)) tk1), (7, .int .i64 (i + 1 : Nat))] _; rw [e1 he]; repeat (first | exact trivial | refine ⟨by first | trivial | exact Weak.refl _ | exact Weak.tok _ _ _ | exact Weak.of_eq (congrArg (AV.int _) (by omega)) | exact Weak.of_eq (congrArg AV.bool (by fail)) | exact Weak.nils _ _ (.inr rfl), ?_⟩), .refl _, hlt, by assumption⟩
    · have hge : i = acks.length := by omega
      subst hge
      refine Xc_h ?_; (conv => whnf); refine Hid.seq ?_; refine Hid.seq ?_; refine Hid.reg ?_; (conv => whnf); refine SLoad.on 1 rfl ?_; (conv => whnf); refine Hid.cond rfl ?_; refine SIf.n Ty.mixed (decide_eq_false (by rw [hml]; omega)) ?_; refine Xc_h ?_; (conv => whnf); refine Hid.exit ?_; (conv => whnf); refine Hid.seq ?_; refine Hid.reg ?_; (conv => whnf); refine SStore.on 1 rfl ?_
      (conv => whnf); refine Hid.seq ?_; refine Hid.reg ?_; (conv => whnf); refine SLoad.on 1 rfl ?_; (conv => whnf); refine SStore.on 0 rfl ?_; (conv => whnf); refine Hid.ret ?_; (conv => whnf); refine SLoad.on 0 rfl ?_; (conv => whnf); refine .v (le_setBox (le_setBox (hle0.trans hm.le) hb2) h4) ?_
      rw [ovr_all]
      exact .agg (.cons (.refl _) (.cons (.refl _) (.cons (.refl _) (.cons (.refl _) (.cons (.refl _) (.cons (.refl _) (.cons (.refl _) (.cons (.tok _ _ _) (.cons (.refl _) (.cons (.refl _) .nil)))))))))) (by simp [AV.one, eMsgs, eInts])
end Go.Proofs.YtgliemhhnkhboaaGreatDoor
end
section
set_option linter.unusedVariables false
set_option linter.unusedSimpArgs false
set_option maxRecDepth 100000
set_option maxHeartbeats 2000000
namespace Go.Proofs.YtgliemhhnkhboaaGreatDoor
open Go.Al Go.RowKit
def longM (n : Int) (m : Msg) : Int := IntKind.i64.wrap (n + IntKind.i64.wrap (IntKind.i64.wrap (IntKind.i64.wrap (1 + m.body.length) + m.attr.length) + m.why.length))
def longX (n : Int) (x : Sub) : Int := IntKind.i64.wrap (n + IntKind.i64.wrap (IntKind.i64.wrap (IntKind.i64.wrap (IntKind.i64.wrap (IntKind.i64.wrap (1 + x.name.length) + x.topic.length) + x.want.length) + x.note.length) + (x.acks.map (AV.int .i64)).length))
def longQ (n : Int) (l : List Msg) : Int := l.foldl longM n
def longS (n : Int) (l : List Sub) : Int := l.foldl (fun n x => longQ (longX n x) x.queue) n
theorem refLong_any (w0 : Base) (s : Stt) (hf : Fine s.subs) : CallP Tryz.prog w0 7 [eStt s] (.int .i64 (longS 0 s.subs)) := by
  refine CallP.h Ty.tok Ty.mixed Tryz.func7 rfl Tryz.ntmps7 rfl (by simp) (by decide +kernel) fun σ => ?_
  obtain ⟨clock, next, last, l⟩ := s
  dsimp only at hf ⊢
  have hn := hf.n
  (conv => whnf); refine Hid.seq ?_; refine Hid.reg ?_; (conv => whnf); refine SBox.f ?_; (conv => whnf); refine Hid.seq ?_; refine Hid.reg ?_; (conv => whnf); refine Hid.seq ?_; refine Hid.seq ?_; refine Hid.reg ?_; (conv => whnf); refine Hid.block ?_; refine Hid.loop ?_
  refine SLoop.by Ty.mixed (fun ((i, n) : Nat × Int) => l.length - i) (fun (i, n) => [(1, .vp (eStt ⟨clock, next, last, l⟩)), (3, .int .i64 n), (4, .int .i64 i)]) (fun _ => []) (fun (i, n) τ => i ≤ l.length ∧ longS n (l.drop i) = longS 0 l ∧ St.Le σ τ) (0, 0) ⟨by repeat (first | exact trivial | refine ⟨by first | trivial | exact Weak.refl _ | exact Weak.tok _ _ _ | exact Weak.of_eq (congrArg (AV.int _) (by omega)) | exact Weak.of_eq (congrArg AV.bool (by fail)) | exact Weak.nils _ _ (.inr rfl), ?_⟩), .none _, Nat.zero_le _, rfl, .refl _⟩ ?_
  rintro ⟨i, n⟩ τ ⟨hi, hd, hle⟩
  have hml : (l.map eSub).length = l.length := by simp
  by_cases hlt : i < l.length
  · have ga : (l.map eSub)[i]? = some (eSub l[i]) := by simp [hlt]
    have hxq := hf.q _ (List.getElem_mem hlt)
    rw [List.drop_eq_getElem_cons hlt] at hd
    generalize l[i] = x at *
    refine Xc_h ?_; (conv => whnf); refine Hid.seq ?_; refine Hid.seq ?_; refine Hid.reg ?_; (conv => whnf); refine Hid.cond rfl ?_
    skip
    refine SIf.y Ty.mixed (decide_eq_true (by rw [hml]; omega)) ?_; refine Xc_h ?_; (conv => whnf); refine Hid.skip ?_; (conv => whnf); refine Hid.seq ?_; refine Hid.seq ?_; refine Hid.reg ?_; (conv => whnf)
    refine ⟨_, ⟨by first | omega | (rw [hml]; omega) | (simp only [hml]; omega) | fail, by exact ga⟩, ?_⟩
    (conv => whnf); intro b5 hb5; (conv => whnf); refine SStore.on 0 rfl ?_; (conv => whnf); refine Hid.seq ?_; refine Hid.reg ?_; (conv => whnf); refine SLoad.on 0 rfl ?_; (conv => whnf); refine ⟨_, rfl, ?_⟩; (conv => whnf); refine SLoad.on 0 rfl ?_; (conv => whnf); refine ⟨_, rfl, ?_⟩; (conv => whnf); refine SLoad.on 0 rfl ?_; (conv => whnf); refine ⟨_, rfl, ?_⟩; (conv => whnf)
    refine SLoad.on 0 rfl ?_; (conv => whnf); refine ⟨_, rfl, ?_⟩; (conv => whnf); refine SLoad.on 0 rfl ?_; (conv => whnf); refine ⟨_, rfl, ?_⟩; (conv => whnf); refine ⟨_, rfl, ?_⟩; (conv => whnf); refine Hid.seq ?_; refine Hid.reg ?_; (conv => whnf); refine Hid.block ?_; refine Hid.loop ?_
    refine SLoop.by Ty.mixed (fun ((k, n1) : Nat × Int) => x.queue.length - k) (fun (k, n1) => [(1, .vp (eStt ⟨clock, next, last, l⟩)), (3, .int .i64 n1), (4, .int .i64 i), (5, .ptr b5 0), (6, .int .i64 k)]) (fun _ => [(b5, (eSub x).cells)]) (fun (k, n1) τ1 => k ≤ x.queue.length ∧ longQ n1 (x.queue.drop k) = longQ (longX n x) x.queue ∧ St.Le σ τ1) (0, longX n x) ⟨by repeat (first | exact trivial | refine ⟨by first | trivial | exact Weak.refl _ | exact Weak.tok _ _ _ | exact Weak.of_eq (congrArg (AV.int _) (by omega)) | exact Weak.of_eq (congrArg AV.bool (by fail)) | exact Weak.nils _ _ (.inr rfl), ?_⟩), .refl _, Nat.zero_le _, rfl, le_new2 hle hb5⟩ ?_
    rintro ⟨k, n1⟩ τ1 ⟨hk, hdk, hle1⟩
    have hmq : (x.queue.map eMsg).length = x.queue.length := by simp
    by_cases hlk : k < x.queue.length
    · have gm : (x.queue.map eMsg)[k]? = some (eMsg x.queue[k]) := by simp [hlk]
      rw [List.drop_eq_getElem_cons hlk] at hdk
      generalize x.queue[k] = m at *
      refine Xc_h ?_; (conv => whnf); refine Hid.seq ?_; refine Hid.seq ?_; refine Hid.reg ?_; (conv => whnf); refine SLoad.on 0 rfl ?_; (conv => whnf); refine Hid.cond rfl ?_; refine SIf.y Ty.mixed (decide_eq_true (by rw [hmq]; omega)) ?_; refine Xc_h ?_; (conv => whnf); refine Hid.skip ?_; (conv => whnf); refine Hid.seq ?_; refine Hid.regD ?_; refine SReg.t 1 [] (by decide +kernel) ?_
      (conv => whnf); (conv => whnf); refine SLoad.on 0 rfl ?_; (conv => whnf)
      refine ⟨_, ⟨by first | omega | (rw [hmq]; omega) | (simp only [hmq]; omega) | fail, by exact gm⟩, ?_⟩
      (conv => whnf); refine ⟨_, rfl, ?_⟩; (conv => whnf); refine SLoad.on 0 rfl ?_; (conv => whnf)
      refine ⟨_, ⟨by first | omega | (rw [hmq]; omega) | (simp only [hmq]; omega) | fail, by exact gm⟩, ?_⟩
      (conv => whnf); refine ⟨_, rfl, ?_⟩; (conv => whnf); refine SLoad.on 0 rfl ?_; (conv => whnf)
      refine ⟨_, ⟨by first | omega | (rw [hmq]; omega) | (simp only [hmq]; omega) | fail, by exact gm⟩, ?_⟩
      (conv => whnf); refine ⟨_, rfl, ?_⟩; (conv => whnf); refine ⟨_, rfl, ?_⟩; (conv => whnf); refine Hid.reg ?_; (conv => whnf); refine ⟨_, IntWalk.i64_in _ (by omega), ?_⟩; (conv => whnf)
      exact ⟨(k + 1, longM n1 m), by show x.queue.length - (k + 1) < x.queue.length - k; omega, by repeat (first | exact trivial | refine ⟨by first | trivial | exact Weak.refl _ | exact Weak.tok _ _ _ | exact Weak.of_eq (congrArg (AV.int _) (by omega)) | exact Weak.of_eq (congrArg AV.bool (by fail)) | exact Weak.nils _ _ (.inr rfl), ?_⟩), .refl _, hlk, hdk, hle1⟩
    · have hge : k = x.queue.length := by omega
      rw [hge, List.drop_length] at hdk
      refine Xc_h ?_; (conv => whnf); refine Hid.seq ?_; refine Hid.seq ?_; refine Hid.reg ?_; (conv => whnf); refine SLoad.on 0 rfl ?_; (conv => whnf); refine Hid.cond rfl ?_; refine SIf.n Ty.mixed (decide_eq_false (by rw [hmq]; omega)) ?_; refine Xc_h ?_; (conv => whnf); refine Hid.exit ?_; (conv => whnf); refine Hid.reg ?_; (conv => whnf); refine ⟨_, IntWalk.i64_in _ (by omega), ?_⟩
      (conv => whnf)
      refine ⟨(i + 1, n1), by show l.length - (i + 1) < l.length - i; omega, by repeat (first | exact trivial | refine ⟨by first | trivial | exact Weak.refl _ | exact Weak.tok _ _ _ | exact Weak.of_eq (congrArg (AV.int _) (by omega)) | exact Weak.of_eq (congrArg AV.bool (by fail)) | exact Weak.nils _ _ (.inr rfl), ?_⟩), .none _, hlt, ?_, hle1⟩
      rw [← hd, longS, longS, List.foldl_cons, ← hdk]; rfl
  · have hge : i = l.length := by omega
    rw [hge, List.drop_length] at hd
    refine Xc_h ?_; (conv => whnf); refine Hid.seq ?_; refine Hid.seq ?_; refine Hid.reg ?_; (conv => whnf); refine Hid.cond rfl ?_
    skip
    refine SIf.n Ty.mixed (decide_eq_false (by rw [hml]; omega)) ?_; refine Xc_h ?_; (conv => whnf); refine Hid.exit ?_; (conv => whnf); refine Hid.seq ?_; refine Hid.reg ?_; (conv => whnf); refine Hid.ret ?_; (conv => whnf)
    skip
    exact .p hle (by rw [← hd]; rfl)
end Go.Proofs.YtgliemhhnkhboaaGreatDoor
end
section
set_option linter.unusedVariables false
set_option linter.unusedSimpArgs false
set_option maxRecDepth 100000
set_option maxHeartbeats 2000000
namespace Go.Proofs.YtgliemhhnkhboaaGreatDoor
open Go.Al Go.RowKit
def zT : List AV := [.int .i64 0, .int .i64 0, .int .i64 0, .nils]
theorem cut_bytes (c : List UInt8) (a b : Nat) : ((aBytes c).take b).drop a = aBytes ((c.take b).drop a) := by simp [aBytes, List.map_take, List.map_drop]
def stL (ck nx : Int) (ls : Nat) (c : List UInt8) : Nat → Nat → List Sub → List Sub
  | n + 1, i, l => if ls = 0 ∨ min c.length (3 + 24 * i) = min c.length (27 + 24 * i) then l
    else stL ck nx ls c n (i + 1) (putS l (subF ((c.take (min c.length (27 + 24 * i))).drop (min c.length (3 + 24 * i))) ((1 + (c.getD (min c.length (3 + 24 * i)) 0).toNat % ls : Nat) : Int) ck nx))
  | 0, _, l => l
def stateF (c : List UInt8) : Stt := ⟨((gL c 0 * 7 : Nat) : Int), ((1 + gL c 1 / 4 : Nat) : Int), ((gL c 2 % 8 : Nat) : Int), stL ((gL c 0 * 7 : Nat) : Int) ((1 + gL c 1 / 4 : Nat) : Int) (gL c 2 % 8) c 6 0 []⟩
theorem state_any2 (w0 : Base) (c : List UInt8) (t : Tok) (hc0 : c.length ≤ 9223372036854775807) (σ : St) : CallW Tryz.prog w0 9 [.slc 1 (aBytes c) t] σ (fun r s => ∃ (ck nx ls : Nat) (st : Stt), r = eStt st ∧ GrownS ck nx ls st ∧ st = stateF c ∧ s = σ) := by
  have g0 := gL_lt c 0
  have g1 := gL_lt c 1
  have g2 := gL_lt c 2
  have hla := length_aBytes c
  refine CallW.h (B := []) Ty.tok Ty.mixed Tryz.func9 rfl Tryz.ntmps9 rfl (by simp) (by decide +kernel) (.nil σ) ?_; (conv => whnf); refine Hid.seq ?_; refine Hid.reg ?_; (conv => whnf); intro b2 hb2; (conv => whnf); refine Hid.seq ?_; refine Hid.reg ?_; (conv => whnf); refine SCall.p (by exact g_any w0 c t 0) ?_; (conv => whnf)
  refine ⟨_, IntWalk.i64_in _ (by omega), ?_⟩; (conv => whnf); refine SCall.p (by exact g_any w0 c t 1) ?_; (conv => whnf); refine And.intro (by omega) ?_; (conv => whnf); refine ⟨_, IntWalk.i64_in _ (by omega), ?_⟩; (conv => whnf); refine SCall.p (by exact g_any w0 c t 2) ?_; (conv => whnf); refine And.intro (by omega) ?_; (conv => whnf); intro b3 hb3; (conv => whnf); refine SStore.on 0 rfl ?_
  (conv => whnf); refine Hid.seq ?_; refine Hid.seq ?_; refine Hid.reg ?_; (conv => whnf); refine Hid.block ?_; refine Hid.loop ?_
  have h3 := le_none (le_new (.refl _) hb2) hb3
  have n23 : b3 ≠ b2 := by rintro rfl; rw [setBox_same] at hb3; cases hb3
  obtain ⟨ck, hck⟩ : ∃ n : Nat, n = gL c 0 * 7 := ⟨_, rfl⟩
  obtain ⟨nx, hnx⟩ : ∃ n : Nat, n = 1 + gL c 1 / 4 := ⟨_, rfl⟩
  obtain ⟨ls, hls⟩ : ∃ n : Nat, n = gL c 2 % 8 := ⟨_, rfl⟩
  rw [show ((gL c 0 : Int) * 7) = (ck : Int) by omega, show (1 + (gL c 1 : Int) / 4) = (nx : Int) by omega, show ((gL c 2 : Int) % 8) = (ls : Int) by omega]
  have hSt : stateF c = ⟨(ck : Int), (nx : Int), (ls : Int), stL (ck : Int) (nx : Int) ls c 6 0 []⟩ := by rw [hck, hnx, hls]; rfl
  refine SLoop.weakBox (ds := [.int .i64 ck, .int .i64 nx, .int .i64 ls, eSubs []]) 0 rfl (.cons (.refl _) (.cons (.refl _) (.cons (.refl _) (.cons (.nils 10 .no (.inl rfl)) .nil)))) ?_
  refine SLoop.by Ty.mixed (fun ((i, l) : Nat × List Sub) => 6 - i) (fun (i, l) => [(0, .slc 1 (aBytes c) t), (2, .ptr b2 0), (3, .ptr b3 0), (4, .int .i64 i)]) (fun (i, l) => [(b3, [.int .i64 ck, .int .i64 nx, .int .i64 ls, eSubs l]), (b2, zT)]) (fun (i, l) τ => i ≤ 6 ∧ GrownS ck nx ls ⟨ck, nx, ls, l⟩ ∧ stL ck nx ls c (6 - i) i l = stL ck nx ls c 6 0 [] ∧ St.Le σ τ) (0, []) ⟨by repeat (first | exact trivial | refine ⟨by first | trivial | exact Weak.refl _ | exact Weak.tok _ _ _ | exact Weak.of_eq (congrArg (AV.int _) (by omega)) | exact Weak.of_eq (congrArg AV.bool (by fail)) | exact Weak.nils _ _ (.inr rfl), ?_⟩), .refl _, by omega, ⟨rfl, by omega, rfl, by omega, rfl, by omega, List.Pairwise.nil, by simp⟩, rfl, le_setBox (le_setBox (le_setBox (le_setBox (.refl _) hb2) h3) h3) h3⟩ ?_
  clear hb3 hck hnx hls g0 g1 g2; rintro ⟨i, l⟩ τ ⟨hi, hg, hR, hle⟩
  generalize hG : stL (ck : Int) (nx : Int) ls c 6 0 [] = G at hR hSt ⊢
  clear hG
  have hls7 := hg.lsle
  have hnx1 := hg.nxle
  have hck1 := hg.ckle
  by_cases hgo : i < 6 ∧ 0 < ls
  · obtain ⟨hi6, hl0⟩ := hgo
    have d1 : decide ((i : Int) < 6) = true := decide_eq_true (by omega)
    have d2 : decide (0 < (ls : Int)) = true := decide_eq_true (by omega)
    rw [show 6 - i = (6 - (i + 1)) + 1 by omega, stL] at hR
    refine Xc_h ?_; (conv => whnf); refine Hid.seq ?_; refine Hid.seq ?_; refine Hid.reg ?_; (conv => whnf); refine SCond.y (by assumption) ?_; (conv => whnf); refine SCond.y (by assumption) ?_; (conv => whnf); refine SLoad.on 0 rfl ?_; (conv => whnf); refine SCond.y (by assumption) ?_; (conv => whnf); refine SPick.y (by assumption) ?_; (conv => whnf); refine Hid.cond rfl ?_
    refine SIf.y Ty.mixed (by assumption) ?_; refine Xc_h ?_; (conv => whnf); refine Hid.skip ?_; (conv => whnf); refine Hid.seq ?_; refine Hid.seq ?_; refine Hid.reg ?_; (conv => whnf); refine ⟨_, IntWalk.i64_in _ (by omega), ?_⟩; (conv => whnf); refine ⟨_, IntWalk.i64_in _ (by omega), ?_⟩; (conv => whnf); refine Hid.seq ?_; refine Hid.reg ?_; (conv => whnf)
    refine ⟨_, IntWalk.i64_in _ (by omega), ?_⟩; (conv => whnf); refine ⟨_, IntWalk.i64_in _ (by omega), ?_⟩; (conv => whnf); refine Hid.seq ?_; refine Hid.seq ?_; refine Hid.reg ?_; (conv => whnf); refine Hid.cond rfl ?_
    rw [show min ((aBytes c).length : Int) (3 + 24 * (i : Int)) = ((min c.length (3 + 24 * i) : Nat) : Int) by rw [hla]; omega, show min ((aBytes c).length : Int) (27 + 24 * (i : Int)) = ((min c.length (27 + 24 * i) : Nat) : Int) by rw [hla]; omega]
    by_cases hab : min c.length (3 + 24 * i) = min c.length (27 + 24 * i)
    · rw [if_pos (.inr hab)] at hR
      refine SIf.y Ty.mixed (decide_eq_true (by omega)) ?_; refine Xc_h ?_; (conv => whnf); refine Hid.exit ?_; (conv => whnf); refine Hid.seq ?_; refine Hid.reg ?_; (conv => whnf); refine SLoad.on 0 rfl ?_; (conv => whnf); refine SStore.on 1 rfl ?_; (conv => whnf); refine Hid.ret ?_; (conv => whnf); refine SLoad.on 1 rfl ?_; (conv => whnf)
      exact ⟨fun _ => ⟨_, σ, .refl _, le_setBox hle hb2, ck, nx, ls, ⟨ck, nx, ls, l⟩, rfl, hg, by rw [hSt, ← hR], rfl⟩⟩
    · rw [if_neg (by omega)] at hR
      refine SIf.n Ty.mixed (decide_eq_false (by omega)) ?_
      have ha : min c.length (3 + 24 * i) < c.length := by omega
      have hab2 : min c.length (3 + 24 * i) ≤ min c.length (27 + 24 * i) := by omega
      have hbl : min c.length (27 + 24 * i) ≤ c.length := by omega
      generalize min c.length (3 + 24 * i) = a at *
      generalize min c.length (27 + 24 * i) = b at *
      have ga : (aBytes c)[a]? = some (.int .u8 (c.getD a 0).toNat) := get_bytes (by simp [List.getD, ha])
      have hu := (c.getD a 0).toNat_lt
      generalize c.getD a 0 = q at *
      have hsub := fun σ => sub_any2 w0 ((c.take b).drop a) .no (1 + q.toNat % ls) ck nx (by rw [List.length_drop, List.length_take]; omega) (by have := Nat.mod_lt q.toNat hl0; omega) (by omega) (by omega) σ
      have hm1 := Int.emod_nonneg (q.toNat : Int) (show (ls : Int) ≠ 0 by omega)
      have hm2 := Int.emod_lt_of_pos (q.toNat : Int) (show (0 : Int) < (ls : Int) by omega)
      have hm3 : 1 + q.toNat % ls ≤ ls := by have := Nat.mod_lt q.toNat hl0; omega
      refine Xc_h ?_; (conv => whnf); refine Hid.skip ?_; (conv => whnf); refine Hid.seq ?_; refine Hid.regD ?_; refine SReg.t 1 [] (by decide +kernel) ?_; (conv => whnf)
      refine ⟨_, ⟨by first | omega | (rw [hla]; omega) | (simp only [hla]; omega) | fail, by exact ga⟩, ?_⟩
      (conv => whnf); refine ⟨_, IntWalk.i64_in _ (by omega), ?_⟩; (conv => whnf); refine SLoad.on 0 rfl ?_; (conv => whnf); refine And.intro (by omega) ?_; (conv => whnf); refine ⟨_, IntWalk.i64_in _ (by omega), ?_⟩; (conv => whnf); refine Hid.regD ?_; refine SReg.h 0 rfl [0, 1, 2, 3, 4, 5, 6, 7, 8, 9, 10, 11, 12] [3, 0, 0, 0, 0, 0, 0, 3, 0, 3, 4, 0, 2] (by decide +kernel) ?_; (conv => whnf)
      (conv => whnf); refine SLoadH.on 0 rfl rfl ?_; (conv => whnf); refine And.intro (by omega) ?_; (conv => whnf); refine ⟨_, cut_bytes c a b, ?_⟩; (conv => whnf); refine SLoadH.on 0 rfl rfl ?_; (conv => whnf); refine SLoadH.on 0 rfl rfl ?_; (conv => whnf); refine SCall.w4 (hsub _) rfl ?_; rintro r s ⟨x, rfl, hx, hxf, rfl⟩ hB
      refine ⟨⟨_, hB, ?_⟩, fun h => h⟩
      have hput := refPut_any w0 ⟨ck, nx, ls, l⟩ x hg.fine (by have := hx.nacks; omega) (by have := hx.nqueue; omega)
      have hg2 := hg.put hx (by omega) hm3
      (conv => whnf); refine SCall.p (by exact hput) ?_; (conv => whnf); refine SStore.on 0 rfl ?_; (conv => whnf); refine Hid.reg ?_; (conv => whnf); refine ⟨_, IntWalk.i64_in _ (by omega), ?_⟩; (conv => whnf)
      exact ⟨(i + 1, putS l x), by show 6 - (i + 1) < 6 - i; omega, by repeat (first | exact trivial | refine ⟨by first | trivial | exact Weak.refl _ | exact Weak.tok _ _ _ | exact Weak.of_eq (congrArg (AV.int _) (by omega)) | exact Weak.of_eq (congrArg AV.bool (by fail)) | exact Weak.nils _ _ (.inr rfl), ?_⟩), .refl _, hi6, hg2, by rw [hxf]; exact hR, le_setBox hle h3⟩
  · by_cases hi6 : i < 6
    · have d1 : decide ((i : Int) < 6) = true := decide_eq_true (by omega)
      have d2 : decide (0 < (ls : Int)) = false := decide_eq_false (by omega)
      rw [show 6 - i = (6 - (i + 1)) + 1 by omega, stL, if_pos (.inl (by omega))] at hR
      refine Xc_h ?_; (conv => whnf); refine Hid.seq ?_; refine Hid.seq ?_; refine Hid.reg ?_; (conv => whnf); refine SCond.y (by assumption) ?_; (conv => whnf); refine SCond.y (by assumption) ?_; (conv => whnf); refine SLoad.on 0 rfl ?_; (conv => whnf); refine SCond.y (by assumption) ?_; (conv => whnf); refine SPick.y (by assumption) ?_; (conv => whnf); refine Hid.cond rfl ?_
      refine SIf.n Ty.mixed (by assumption) ?_; refine Xc_h ?_; (conv => whnf); refine Hid.exit ?_; (conv => whnf); refine Hid.seq ?_; refine Hid.reg ?_; (conv => whnf); refine SLoad.on 0 rfl ?_; (conv => whnf); refine SStore.on 1 rfl ?_; (conv => whnf); refine Hid.ret ?_; (conv => whnf); refine SLoad.on 1 rfl ?_; (conv => whnf)
      exact ⟨fun _ => ⟨_, σ, .refl _, le_setBox hle hb2, ck, nx, ls, ⟨ck, nx, ls, l⟩, rfl, hg, by rw [hSt, ← hR], rfl⟩⟩
    · have d1 : decide ((i : Int) < 6) = false := decide_eq_false (by omega)
      rw [show 6 - i = 0 by omega, stL] at hR
      refine Xc_h ?_; (conv => whnf); refine Hid.seq ?_; refine Hid.seq ?_; refine Hid.reg ?_; (conv => whnf); refine SCond.n (by assumption) ?_; (conv => whnf); refine SCond.n (by assumption) ?_; (conv => whnf); refine SCond.n (by assumption) ?_; (conv => whnf); refine SPick.n (by assumption) ?_; (conv => whnf); refine Hid.cond rfl ?_; refine SIf.n Ty.mixed (by exact rfl) ?_; refine Xc_h ?_
      (conv => whnf); refine Hid.exit ?_; (conv => whnf); refine Hid.seq ?_; refine Hid.reg ?_; (conv => whnf); refine SLoad.on 0 rfl ?_; (conv => whnf); refine SStore.on 1 rfl ?_; (conv => whnf); refine Hid.ret ?_; (conv => whnf); refine SLoad.on 1 rfl ?_; (conv => whnf)
      exact ⟨fun _ => ⟨_, σ, .refl _, le_setBox hle hb2, ck, nx, ls, ⟨ck, nx, ls, l⟩, rfl, hg, by rw [hSt, ← hR], rfl⟩⟩
end Go.Proofs.YtgliemhhnkhboaaGreatDoor
end
section
set_option linter.unusedVariables false
set_option linter.unusedSimpArgs false
set_option maxRecDepth 100000
set_option maxHeartbeats 2000000
namespace Go.Proofs.YtgliemhhnkhboaaGreatDoor
open Go.Al Go.RowKit
def zSub : List AV := [.int .i64 0, .str [], .str [], .str [], .int .i64 0, .int .i64 0, .int .i64 0, .nils, .nils, .str []]
theorem Fine.put {l : List Sub} (h : Fine l) (hn : l.length ≤ 977343669119) {x : Sub} (ha : x.acks.length ≤ 17592186043904) (hq : x.queue.length ≤ 1599289640354) : Fine (putS l x) := by
  refine ⟨?_, fun y hy => ?_, fun y hy => ?_⟩
  · have h1 : (upto (_root_.Go.Proofs.YtgliemhhnkhboaaGreatDoor.wo l x.id) x.id ++ beyond (_root_.Go.Proofs.YtgliemhhnkhboaaGreatDoor.wo l x.id) x.id).length = (_root_.Go.Proofs.YtgliemhhnkhboaaGreatDoor.wo l x.id).length := by rw [upto_beyond]
    have h2 := wo_len l x.id
    rw [List.length_append] at h1
    rw [putS, List.length_append, List.length_cons]
    omega
  · rcases mem_put.1 hy with rfl | ⟨hy, _⟩
    · exact ha
    · exact h.a y hy
  · rcases mem_put.1 hy with rfl | ⟨hy, _⟩
    · exact hq
    · exact h.q y hy
end Go.Proofs.YtgliemhhnkhboaaGreatDoor
end
section
set_option linter.unusedVariables false
set_option linter.unusedSimpArgs false
set_option maxRecDepth 100000
set_option maxHeartbeats 2000000
namespace Go.Proofs.YtgliemhhnkhboaaGreatDoor
open Go.Al Go.RowKit
theorem findR_is {l : List Sub} (h : Fine l) (id : Int) : ∃ y b, findR (fnd l id) = .tup [eSub y, .bool b] ∧ y.acks.length ≤ 17592186043904 ∧ y.queue.length ≤ 1599289640354 := by
  cases hf : fnd l id with
  | none => exact ⟨sub0, false, rfl, by simp [sub0], by simp [sub0]⟩
  | some y => exact ⟨y, true, rfl, h.a y (List.mem_of_find?_eq_some hf), h.q y (List.mem_of_find?_eq_some hf)⟩
theorem settle_len (x : Sub) (next : Int) : (settleS x next).acks.length ≤ x.acks.length := List.length_filter_le _ _
theorem changes_any (w0 : Base) (s : Stt) (x : Sub) (id next : Int) (hf : Fine s.subs) (hn : s.subs.length ≤ 977343669119) (hxa : x.acks.length ≤ 17592186043904) (hxq : x.queue.length ≤ 1599289640354) : CallP Tryz.prog w0 20 [eStt s, eSub x, .int .i64 id, .int .i64 next] (.bool true) := by
  have p1 := find_any w0 s id hf
  have p2 := refFind_any w0 s id hf
  obtain ⟨y, b, e, hya, hyq⟩ := findR_is hf id
  rw [e] at p1 p2
  have hbb : (b == b) = true := by simp
  have p3 := sameSub_any w0 y y hyq hya
  have p4 := put_any w0 s x hf hxa hxq
  have p5 := refPut_any w0 s x hf hxa hxq
  have p6 := refSame_any w0 { s with subs := putS s.subs x } { s with subs := putS s.subs x } (hf.put hn hxa hxq)
  have p7 := without_any w0 s id hf
  have p8 := refWithout_any w0 s id hf
  have p9 := refSame_any w0 { s with subs := _root_.Go.Proofs.YtgliemhhnkhboaaGreatDoor.wo s.subs id } { s with subs := _root_.Go.Proofs.YtgliemhhnkhboaaGreatDoor.wo s.subs id } (hf.wo id)
  have pa := settle_any w0 x next hxa hxq
  have pb := refSettle_any w0 x next hxa hxq
  have pc := sameSub_any w0 (settleS x next) (settleS x next) hxq (Nat.le_trans (settle_len x next) hxa)
  rw [decide_eq_true rfl] at p3 pc
  rw [show ∀ s, sameT s s = true from fun s => by simp [sameT]] at p6 p9
  refine CallP.h Ty.tok Ty.mixed Tryz.func20 rfl Tryz.ntmps20 rfl (by simp) (by decide +kernel) fun σ => ?_
  (conv => whnf); refine Hid.seq ?_; refine Hid.reg ?_; (conv => whnf); refine SBox.f ?_; (conv => whnf); refine SBox.f ?_; (conv => whnf); refine Hid.seq ?_; refine Hid.reg ?_; (conv => whnf); refine SCall.p (by exact p1) ?_; (conv => whnf); intro b9 hb9; (conv => whnf); refine SStore.on 0 rfl ?_; (conv => whnf); refine Hid.seq ?_; refine Hid.reg ?_; (conv => whnf); refine SCall.p (by exact p2) ?_
  (conv => whnf); intro b9 hb9; (conv => whnf); refine SStore.on 0 rfl ?_; (conv => whnf); refine Hid.seq ?_; refine Hid.regD ?_
  rename_i c9 hc9
  refine SReg.fz 11 hb9 rfl rfl ?_; refine SReg.fz 9 hc9 rfl rfl ?_; refine SReg.t 0 [] (by decide +kernel) ?_; (conv => whnf); refine SCall.p (by exact p3) ?_; (conv => whnf); refine SCond.y (by exact rfl) ?_; (conv => whnf); refine SCond.y (by exact rfl) ?_; (conv => whnf); refine SCond.y (by exact rfl) ?_; (conv => whnf); refine SPick.y (by exact rfl) ?_; (conv => whnf)
  refine SCond.y (by assumption) ?_; (conv => whnf); refine SCond.y (by assumption) ?_; (conv => whnf); refine SCond.y (by assumption) ?_; (conv => whnf); refine SCall.p (by exact p4) ?_; (conv => whnf); refine SCond.y (by assumption) ?_; (conv => whnf); refine SCond.y (by assumption) ?_; (conv => whnf); refine SCond.y (by assumption) ?_; (conv => whnf); refine SCall.p (by exact p5) ?_
  (conv => whnf); refine SCond.y (by assumption) ?_; (conv => whnf); refine SCall.p (by exact p6) ?_; (conv => whnf); refine SPick.y (by assumption) ?_; (conv => whnf); refine SCond.y (by exact rfl) ?_; (conv => whnf); refine SCond.y (by exact rfl) ?_; (conv => whnf); refine SCond.y (by exact rfl) ?_; (conv => whnf); refine SCall.p (by exact p7) ?_; (conv => whnf); refine SCond.y (by exact rfl) ?_
  (conv => whnf); refine SCond.y (by exact rfl) ?_; (conv => whnf); refine SCond.y (by exact rfl) ?_; (conv => whnf); refine SCall.p (by exact p8) ?_; (conv => whnf); refine SCond.y (by exact rfl) ?_; (conv => whnf); refine SCall.p (by exact p9) ?_; (conv => whnf); refine SPick.y (by exact rfl) ?_; (conv => whnf); refine SCond.y (by exact rfl) ?_; (conv => whnf); refine SCond.y (by exact rfl) ?_
  (conv => whnf); refine SCond.y (by exact rfl) ?_; (conv => whnf); refine SCall.p (by exact pa) ?_; (conv => whnf); refine SCond.y (by exact rfl) ?_; (conv => whnf); refine SCond.y (by exact rfl) ?_; (conv => whnf); refine SCond.y (by exact rfl) ?_; (conv => whnf); refine SCall.p (by exact pb) ?_; (conv => whnf); refine SCond.y (by exact rfl) ?_; (conv => whnf); refine SCall.p (by exact pc) ?_
  (conv => whnf); refine SPick.y (by exact rfl) ?_; (conv => whnf); refine Hid.ret ?_; (conv => whnf)
  have h11 := le_none (le_setBox (le_new (.refl _) hc9) hc9) hb9
  exact .p (by repeat (first | exact .refl _ | refine le_setBox ?_ (by assumption))) rfl
end Go.Proofs.YtgliemhhnkhboaaGreatDoor
end
section
set_option linter.unusedVariables false
set_option linter.unusedSimpArgs false
set_option maxRecDepth 100000
set_option maxHeartbeats 2000000
namespace Go.Proofs.YtgliemhhnkhboaaGreatDoor
open Go.Al Go.RowKit
theorem state_fun (w0 : Base) (c : List UInt8) (t : Tok) (hc0 : c.length ≤ 9223372036854775807) : CallP Tryz.prog w0 9 [.slc 1 (aBytes c) t] (eStt (stateF c)) := fun σ =>
  (state_any2 w0 c t hc0 σ).mono fun r s ⟨ck, nx, ls, st, h1, h2, h3, h4⟩ => by subst h3; exact ⟨h1, h4⟩
theorem stateChanges_any (w0 : Base) (hL : Laid w0) (s0 t : Stt) (x : Sub) (id next : Int) (c : List UInt8) (tc : Tok) (d : List UInt8) (td : Tok) (k : UInt8) (hs : Fine s0.subs) (hsn : s0.subs.length ≤ 977343669119) (ht : Fine t.subs) (hxa : x.acks.length ≤ 17592186043904) (hxq : x.queue.length ≤ 1599289640354) (hc : c.length ≤ 9223372036854775807) (hd : d.length ≤ 9223372036854775807) (σ : St) :
    CallW Tryz.prog w0 6 [eStt s0, eStt t, eSub x, .int .i64 id, .int .i64 next, .slc 1 (aBytes c) tc, .slc 1 (aBytes d) td, .int .u8 k.toNat] σ (fun r _ => r = .bool true) := by
  have hkn := known10_any w0 hL
  have hk := k.toNat_lt
  have l1 := refLong_any w0 s0 hs
  have l2 := refLong_any w0 t ht
  refine CallW.h (B := []) Ty.tok Ty.mixed Tryz.func6 rfl Tryz.ntmps6 rfl (by simp) (by decide +kernel) (.nil σ) ?_
  by_cases h1 : decide (900 < IntKind.i64.wrap (longS 0 s0.subs + longS 0 t.subs)) = true
  · (conv => whnf)
    refine Hid.seq ?_; refine Hid.reg ?_; (conv => whnf); refine SBox.f ?_; (conv => whnf); refine SBox.f ?_; (conv => whnf); refine SBox.f ?_; (conv => whnf); refine Hid.seq ?_; refine Hid.seq ?_; refine Hid.regD ?_; refine SReg.t 0 [] (by decide +kernel) ?_; (conv => whnf); refine SCall.p (by exact l1) ?_; (conv => whnf); refine SCall.p (by exact l2) ?_; (conv => whnf); refine ⟨_, rfl, ?_⟩
    (conv => whnf); refine SCond.y (by assumption) ?_; (conv => whnf); refine SCond.y (by assumption) ?_; (conv => whnf); refine SCond.y (by assumption) ?_; (conv => whnf); refine SCond.y (by assumption) ?_; (conv => whnf); refine SCond.y (by assumption) ?_; (conv => whnf); refine SCond.y (by assumption) ?_; (conv => whnf); refine SCond.y (by assumption) ?_; (conv => whnf)
    refine SCond.y (by assumption) ?_; (conv => whnf); refine SPick.y (by assumption) ?_; (conv => whnf); refine SCond.y (by exact rfl) ?_; (conv => whnf); refine SCond.y (by exact rfl) ?_; (conv => whnf); refine SPick.y (by exact rfl) ?_; (conv => whnf); refine Hid.cond rfl ?_; refine SIf.y Ty.mixed (by exact rfl) ?_; refine Xc_h ?_; (conv => whnf); refine Hid.seq ?_; refine Hid.reg ?_
    (conv => whnf); refine SCall.p (by exact hkn) ?_; (conv => whnf); refine Hid.ret ?_; (conv => whnf); exact .w rfl
  have h1 := Bool.eq_false_iff.2 h1
  by_cases h2 : decide (60 < ((x.acks.map (AV.int .i64)).length : Int) + ((x.queue.map eMsg).length : Int)) = true
  · (conv => whnf)
    refine Hid.seq ?_; refine Hid.reg ?_; (conv => whnf); refine SBox.f ?_; (conv => whnf); refine SBox.f ?_; (conv => whnf); refine SBox.f ?_; (conv => whnf); refine Hid.seq ?_; refine Hid.seq ?_; refine Hid.regD ?_; refine SReg.t 0 [] (by decide +kernel) ?_; (conv => whnf); refine SCall.p (by exact l1) ?_; (conv => whnf); refine SCall.p (by exact l2) ?_; (conv => whnf); refine ⟨_, rfl, ?_⟩
    (conv => whnf); refine SCond.n (by assumption) ?_; (conv => whnf); refine SCond.n (by assumption) ?_; (conv => whnf); refine SCond.n (by assumption) ?_; (conv => whnf); refine SCond.n (by assumption) ?_; (conv => whnf); refine SCond.n (by assumption) ?_; (conv => whnf); refine SCond.n (by assumption) ?_; (conv => whnf); refine SCond.n (by assumption) ?_; (conv => whnf)
    refine ⟨_, IntWalk.i64_in _ (by simp only [List.length_map]; omega), ?_⟩; (conv => whnf); refine SCond.n (by assumption) ?_; (conv => whnf); refine SPick.n (by assumption) ?_; (conv => whnf); refine SCond.y (by assumption) ?_; (conv => whnf); refine SCond.y (by assumption) ?_; (conv => whnf); refine SPick.y (by assumption) ?_; (conv => whnf); refine Hid.cond rfl ?_
    refine SIf.y Ty.mixed (by exact rfl) ?_; refine Xc_h ?_; (conv => whnf); refine Hid.seq ?_; refine Hid.reg ?_; (conv => whnf); refine SCall.p (by exact hkn) ?_; (conv => whnf); refine Hid.ret ?_; (conv => whnf); exact .w rfl
  have h2 := Bool.eq_false_iff.2 h2
  (conv => whnf); refine Hid.seq ?_; refine Hid.reg ?_; (conv => whnf); refine SBox.f ?_; (conv => whnf); refine SBox.f ?_; (conv => whnf); refine SBox.f ?_; (conv => whnf); refine Hid.seq ?_; refine Hid.seq ?_; refine Hid.regD ?_; refine SReg.t 0 [] (by decide +kernel) ?_; (conv => whnf); refine SCall.p (by exact l1) ?_; (conv => whnf); refine SCall.p (by exact l2) ?_; (conv => whnf)
  refine ⟨_, rfl, ?_⟩; (conv => whnf); refine SCond.n (by assumption) ?_; (conv => whnf); refine SCond.n (by assumption) ?_; (conv => whnf); refine SCond.n (by assumption) ?_; (conv => whnf); refine SCond.n (by assumption) ?_; (conv => whnf); refine SCond.n (by assumption) ?_; (conv => whnf); refine SCond.n (by assumption) ?_; (conv => whnf); refine SCond.n (by assumption) ?_; (conv => whnf)
  refine ⟨_, IntWalk.i64_in _ (by simp only [List.length_map]; omega), ?_⟩; (conv => whnf); refine SCond.n (by assumption) ?_; (conv => whnf); refine SPick.n (by assumption) ?_; (conv => whnf); refine SCond.n (by assumption) ?_; (conv => whnf); refine SCall.p (by exact hkn) ?_; (conv => whnf); refine SCond.n (by assumption) ?_; (conv => whnf); refine SPick.n (by assumption) ?_; (conv => whnf)
  refine Hid.cond rfl ?_; refine SIf.n Ty.mixed (by exact rfl) ?_; refine Xc_h ?_; (conv => whnf); refine Hid.skip ?_; (conv => whnf); refine Hid.seq ?_; refine Hid.reg ?_; (conv => whnf); refine SCall.w (state_any2 w0 c tc hc _) rfl ?_; rintro r s' ⟨ck, nx, ls, st, rfl, hg, hst, rfl⟩ hB; refine ⟨_, hB, ?_⟩
  obtain ⟨clock, nxt, last, l⟩ := st
  obtain rfl : clock = ck := hg.clock
  obtain rfl : nxt = nx := hg.next
  have hck := hg.ckle
  have hnx := hg.nxle
  (conv => whnf); intro b17 hb17; (conv => whnf); refine SStore.on 0 rfl ?_; (conv => whnf); refine Hid.seq ?_; refine Hid.reg ?_; (conv => whnf); refine And.intro (by omega) ?_; (conv => whnf); refine ⟨_, IntWalk.i64_in _ (by omega), ?_⟩; (conv => whnf); refine ⟨_, IntWalk.i64_in _ (by omega), ?_⟩; (conv => whnf); refine SLoad.on 0 rfl ?_; (conv => whnf); refine SLoad.on 0 rfl ?_; (conv => whnf)
  refine SCall.w (sub_any w0 d td (1 + k.toNat % 7) ck nx hd (by omega) (by omega) (by omega) _) rfl ?_; rintro r s ⟨y, rfl, hy, rfl⟩ hB; refine ⟨_, hB, ?_⟩; (conv => whnf); intro b17 hb17; (conv => whnf); refine SStore.on 0 rfl ?_; (conv => whnf); refine Hid.seq ?_; refine Hid.regD ?_
  rename_i c17 hc17
  refine SReg.fz 18 hb17 rfl rfl ?_; refine SReg.fz 17 hc17 rfl rfl ?_
  have hf : Fine l := hg.fine
  have hll : l.length ≤ 7 := hg.len
  have hya : y.acks.length ≤ 20 := hy.nacks
  have hyq : y.queue.length ≤ 30 := hy.nqueue
  have q1 := changes_any w0 s0 x id next hs hsn hxa hxq
  have q2 := changes_any w0 ⟨ck, nx, last, l⟩ y ((k.toNat : Int) % 9) nx hf (show l.length ≤ _ by omega) (by omega) (by omega)
  have q3 := changes_any w0 ⟨ck, nx, last, l⟩ x id (k.toNat : Int) hf (show l.length ≤ _ by omega) hxa hxq
  have r1 : CallP Tryz.prog w0 19 [eStt s0, eStt t] (.bool (sameT s0 t)) := stateSame_any w0 s0 t hs
  have r2 := refSame_any w0 s0 t hs
  have r3 : CallP Tryz.prog w0 19 [eStt ⟨ck, nx, last, l⟩, eStt (stateF d)] (.bool (sameT ⟨ck, nx, last, l⟩ (stateF d))) := stateSame_any w0 ⟨ck, nx, last, l⟩ (stateF d) hf
  have r4 := refSame_any w0 ⟨ck, nx, last, l⟩ (stateF d) hf
  have r5 : CallP Tryz.prog w0 19 [eStt ⟨ck, nx, last, l⟩, eStt ⟨ck, nx, last, l⟩] (.bool true) := by
    have := stateSame_any w0 ⟨ck, nx, last, l⟩ ⟨ck, nx, last, l⟩ hf
    simpa using this
  have r6 := state_fun w0 d td hd
  have e1 : (sameT s0 t == sameT s0 t) = true := by simp
  have e2 : (sameT ⟨ck, nx, last, l⟩ (stateF d) == sameT ⟨ck, nx, last, l⟩ (stateF d)) = true := by simp
  generalize stateF d = u at *
  refine SReg.t 0 [] (by decide +kernel) ?_; (conv => whnf); refine SCall.p (by exact q1) ?_; (conv => whnf); refine SCond.y (by exact rfl) ?_; (conv => whnf); refine SCond.y (by exact rfl) ?_; (conv => whnf); refine SCond.y (by exact rfl) ?_; (conv => whnf); refine SCond.y (by exact rfl) ?_; (conv => whnf); refine And.intro (by omega) ?_; (conv => whnf); refine SCond.y (by exact rfl) ?_
  (conv => whnf); refine ⟨_, IntWalk.i64_in _ (by omega), ?_⟩; (conv => whnf); refine SCond.y (by exact rfl) ?_; (conv => whnf); refine SCond.y (by exact rfl) ?_; (conv => whnf); refine SCond.y (by exact rfl) ?_; (conv => whnf); refine SCall.p (by exact q2) ?_; (conv => whnf); refine SPick.y (by exact rfl) ?_; (conv => whnf); refine SCond.y (by exact rfl) ?_; (conv => whnf)
  refine SCond.y (by exact rfl) ?_; (conv => whnf); refine SCond.y (by exact rfl) ?_; (conv => whnf); refine SCond.y (by exact rfl) ?_; (conv => whnf); refine SCond.y (by exact rfl) ?_; (conv => whnf); refine ⟨_, IntWalk.i64_in _ (by omega), ?_⟩; (conv => whnf); refine SCond.y (by exact rfl) ?_; (conv => whnf); refine SCall.p (by exact q3) ?_; (conv => whnf); refine SPick.y (by exact rfl) ?_
  (conv => whnf); refine SCond.y (by exact rfl) ?_; (conv => whnf); refine SCond.y (by exact rfl) ?_; (conv => whnf); refine SCond.y (by exact rfl) ?_; (conv => whnf); refine SCall.p (by exact r1) ?_; (conv => whnf); refine SCond.y (by exact rfl) ?_; (conv => whnf); refine SCond.y (by exact rfl) ?_; (conv => whnf); refine SCond.y (by exact rfl) ?_; (conv => whnf); refine SCall.p (by exact r2) ?_
  (conv => whnf); refine SCond.y (by exact rfl) ?_; (conv => whnf); refine SPick.y (by exact rfl) ?_; (conv => whnf); refine SCond.y (by assumption) ?_; (conv => whnf); refine SCond.y (by assumption) ?_; (conv => whnf); refine SCond.y (by assumption) ?_; (conv => whnf); refine SCall.p (by exact r6) ?_; (conv => whnf); refine SCond.y (by assumption) ?_; (conv => whnf)
  refine SCall.p (by exact r3) ?_; (conv => whnf); refine SCond.y (by assumption) ?_; (conv => whnf); refine SCond.y (by assumption) ?_; (conv => whnf); refine SCond.y (by assumption) ?_; (conv => whnf); refine SCall.p (by exact r6) ?_; (conv => whnf); refine SCond.y (by assumption) ?_; (conv => whnf); refine SCall.p (by exact r4) ?_; (conv => whnf); refine SCond.y (by assumption) ?_
  (conv => whnf); refine SPick.y (by assumption) ?_; (conv => whnf); refine SCond.y (by assumption) ?_; (conv => whnf); refine SCond.y (by assumption) ?_; (conv => whnf); refine SCond.y (by assumption) ?_; (conv => whnf); refine SCall.p (by exact r5) ?_; (conv => whnf); refine SPick.y (by assumption) ?_; (conv => whnf); refine Hid.ret ?_; (conv => whnf); exact .w rfl
end Go.Proofs.YtgliemhhnkhboaaGreatDoor
end
section
set_option linter.unusedVariables false
set_option linter.unusedSimpArgs false
set_option maxRecDepth 100000
namespace Go.Proofs.YtgliemhhnkhboaaGreatDoor
open Go.Al Go.RowKit
section
variable {H : Type} {enc : TypeId × Value → H} {W : World}
def I64 (n : Int) : Prop := -9223372036854775808 ≤ n ∧ n ≤ 9223372036854775807
theorem int_in (n : Int) (h : (Lit.int .i64 n).wf = true) : I64 n := by simpa [I64, Lit.wf, IntKind.min, IntKind.max, IntKind.signed, IntKind.bits] using h
theorem eMsg_lay (m : Msg) : (eMsg m).cells.length = 8 ∧ ∀ c ∈ (eMsg m).cells, c.one = true := ⟨rfl, fun c hc => by
  simp only [eMsg, AV.cells, List.mem_cons, List.not_mem_nil, or_false] at hc
  rcases hc with rfl | rfl | rfl | rfl | rfl | rfl | rfl | rfl <;> rfl⟩
theorem eSub_lay (x : Sub) : (eSub x).cells.length = 10 ∧ ∀ c ∈ (eSub x).cells, c.one = true := ⟨rfl, fun c hc => by
  simp only [eSub, AV.cells, List.mem_cons, List.not_mem_nil, or_false] at hc
  rcases hc with rfl | rfl | rfl | rfl | rfl | rfl | rfl | rfl | rfl | rfl <;> rfl⟩
theorem eStt_lay (s : Stt) : (eStt s).cells.length = 4 ∧ ∀ c ∈ (eStt s).cells, c.one = true := ⟨rfl, fun c hc => by
  simp only [eStt, AV.cells, List.mem_cons, List.not_mem_nil, or_false] at hc
  rcases hc with rfl | rfl | rfl | rfl <;> rfl⟩
structure MsgIn (m : Msg) : Prop where
  body : m.body.length ≤ 1000000000000000
  attr : m.attr.length ≤ 1000000000000000
  why : m.why.length ≤ 1000000000000000
structure SubIn (x : Sub) : Prop where
  name : x.name.length ≤ 1000000000000000
  topic : x.topic.length ≤ 1000000000000000
  want : x.want.length ≤ 1000000000000000
  note : x.note.length ≤ 1000000000000000
  lease : I64 x.lease
  most : I64 x.most
  floor : I64 x.floor
  acks : x.acks.length * 8 ≤ 140737488351232
  acksIn : ∀ a ∈ x.acks, I64 a
  queue : x.queue.length * 88 ≤ 140737488351232
  msgs : ∀ m ∈ x.queue, MsgIn m
structure SttIn (s : Stt) : Prop where
  clock : I64 s.clock
  next : I64 s.next
  last : I64 s.last
  subs : s.subs.length * 144 ≤ 140737488351232
  all : ∀ x ∈ s.subs, SubIn x
theorem opens_msg : Opens enc Tryz.prog W 49 8 (fun m : Msg => (eMsg m).cells) MsgIn :=
  (Opens.struct (.cons rfl (Opens.int (Q := I64) Tryz.underlying3 (by kernel_rfl) int_in) (.cons rfl (Opens.str Tryz.underlying9 (by kernel_rfl)) (.cons rfl (Opens.str Tryz.underlying9 (by kernel_rfl)) (.cons rfl (Opens.int (Q := I64) Tryz.underlying3 (by kernel_rfl) int_in) (.cons rfl (Opens.int (Q := I64) Tryz.underlying3 (by kernel_rfl) int_in) (.cons rfl (Opens.bool Tryz.underlying4 (by kernel_rfl)) (.cons rfl (Opens.str Tryz.underlying9 (by kernel_rfl)) (.cons rfl (Opens.int (Q := I64) Tryz.underlying3 (by kernel_rfl) int_in) .nil)))))))) Tryz.underlying49 (by kernel_rfl)).map
    (fun (a, b, c, d, e, f, g, h, _) => (⟨a, b, c, d, e, f, g, h⟩ : Msg)) (fun _ => rfl) (fun y h => ⟨h.2.1, h.2.2.1, h.2.2.2.2.2.2.1⟩) eMsg_lay
theorem opens_sub : Opens enc Tryz.prog W 35 10 (fun x : Sub => (eSub x).cells) SubIn :=
  (Opens.struct (.cons rfl (Opens.int (Q := I64) Tryz.underlying3 (by kernel_rfl) int_in) (.cons rfl (Opens.str Tryz.underlying9 (by kernel_rfl)) (.cons rfl (Opens.str Tryz.underlying9 (by kernel_rfl)) (.cons rfl (Opens.str Tryz.underlying9 (by kernel_rfl)) (.cons rfl (Opens.int (Q := I64) Tryz.underlying3 (by kernel_rfl) int_in) (.cons rfl (Opens.int (Q := I64) Tryz.underlying3 (by kernel_rfl) int_in) (.cons rfl (Opens.int (Q := I64) Tryz.underlying3 (by kernel_rfl) int_in) (.cons rfl (Opens.slice 8 (Opens.int (Q := I64) Tryz.underlying3 (by kernel_rfl) int_in) (fun n => .int .i64 n) (fun _ => rfl) (by decide) Tryz.underlying32 (by kernel_rfl) (by kernel_rfl)) (.cons rfl (Opens.slice 88 opens_msg eMsg (fun _ => rfl) (by decide) Tryz.underlying33 (by kernel_rfl) (by kernel_rfl)) (.cons rfl (Opens.str Tryz.underlying9 (by kernel_rfl)) .nil)))))))))) Tryz.underlying35 (by kernel_rfl)).map
    (fun (a, b, c, d, e, f, g, h, i, j, _) => (⟨a, b, c, d, e, f, g, h, i, j⟩ : Sub)) (fun _ => rfl) (fun y h => ⟨h.2.1, h.2.2.1, h.2.2.2.1, h.2.2.2.2.2.2.2.2.2.1, h.2.2.2.2.1, h.2.2.2.2.2.1, h.2.2.2.2.2.2.1, h.2.2.2.2.2.2.2.1.1, h.2.2.2.2.2.2.2.1.2, h.2.2.2.2.2.2.2.2.1.1, h.2.2.2.2.2.2.2.2.1.2⟩) eSub_lay
theorem opens_state : Opens enc Tryz.prog W 24 4 (fun s : Stt => (eStt s).cells) SttIn :=
  (Opens.struct (.cons rfl (Opens.int (Q := I64) Tryz.underlying3 (by kernel_rfl) int_in) (.cons rfl (Opens.int (Q := I64) Tryz.underlying3 (by kernel_rfl) int_in) (.cons rfl (Opens.int (Q := I64) Tryz.underlying3 (by kernel_rfl) int_in) (.cons rfl (Opens.slice 144 opens_sub eSub (fun _ => rfl) (by decide) Tryz.underlying22 (by kernel_rfl) (by kernel_rfl)) .nil)))) Tryz.underlying24 (by kernel_rfl)).map
    (fun (a, b, c, d, _) => (⟨a, b, c, d⟩ : Stt)) (fun _ => rfl) (fun y h => ⟨h.1, h.2.1, h.2.2.1, h.2.2.2.1.1, h.2.2.2.1.2⟩) eStt_lay
end
end Go.Proofs.YtgliemhhnkhboaaGreatDoor
end
section
set_option linter.unusedVariables false
namespace Go.Proofs.YtgliemhhnkhboaaGreatDoor
open Go.Al Go.RowKit
theorem SttIn.fine {s : Stt} (h : SttIn s) : Fine s.subs :=
  ⟨by have := h.subs; omega, fun x hx => by have := (h.all x hx).acks; omega, fun x hx => by have := (h.all x hx).queue; omega⟩
theorem stateChanges_row_any (w0 : Base) (hL : Laid w0) (s t : Stt) (x : Sub) (id next : Int) (c : List UInt8) (tc : Tok) (d : List UInt8) (td : Tok) (k : UInt8) (hs : SttIn s) (ht : SttIn t) (hx : SubIn x) (hc : c.length ≤ 9223372036854775807) (hd : d.length ≤ 9223372036854775807) (σ : St) :
    CallW Tryz.prog w0 6 [eStt s, eStt t, eSub x, .int .i64 id, .int .i64 next, .slc 1 (aBytes c) tc, .slc 1 (aBytes d) td, .int .u8 k.toNat] σ (fun r _ => r = .bool true) :=
  stateChanges_any w0 hL s t x id next c tc d td k hs.fine (by have := hs.subs; omega) ht.fine (by have := hx.acks; omega) (by have := hx.queue; omega) hc hd σ
end Go.Proofs.YtgliemhhnkhboaaGreatDoor
end
