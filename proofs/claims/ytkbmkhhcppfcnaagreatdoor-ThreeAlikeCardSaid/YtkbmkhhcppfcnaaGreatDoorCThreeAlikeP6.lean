/- The law ThreeAlike returns true for every input, and its arguments read as before: the tied card. No conditions. This is part 6 of 8 of its proof; the parts are read in order. No conditions. -/
import Derived.Test.YtkbmkhhcppfcnaaGreatDoorCThreeAlikeP5
section
set_option linter.unusedVariables false
set_option linter.unusedSimpArgs false
set_option maxRecDepth 100000
set_option maxHeartbeats 1000000
namespace Go.Proofs.YtkbmkhhcppfcnaaGreatDoor
open Go.Al Go.RowKit
theorem eqRows2_any (w0 : Base) (a b : List Row) (ta tb : Tok) (ha : a.length ≤ 1000000000) : CallP Tryz.prog w0 45 [.slc 2 (a.map eRow) ta, .slc 2 (b.map eRow) tb, .fn (.func 52) [] []] (.bool (decide (a = b))) := by
  refine CallP.x Ty.tok Ty.mixed Tryz.func45 rfl Tryz.ntmps45 rfl (by simp) (by decide +kernel) fun σ => ?_
  (conv => whnf)
  skip
  (refine SIf.x Ty.mixed (fun hc => ?_) (fun hc => ?_) <;> (conv => whnf))
  · skip
    refine .p (.refl _) ?_
    have : ¬ a = b := by rintro rfl; simp at hc
    simp [this]
  · have hlen : a.length = b.length := by simp at hc; omega
    clear hc
    skip
    refine SLoop.by Ty.mixed (fun i => a.length - i) (fun i => [(1, .slc 2 (b.map eRow) .no), (2, .fn (.func 52) [] []), (15, .slc 2 (a.map eRow) .no), (16, .int .i64 a.length), (17, .int .i64 i)]) (fun _ => []) (fun i s => i ≤ a.length ∧ St.Le σ s ∧ a.take i = b.take i) 0 ⟨?_, BSub.none _, Nat.zero_le _, by repeat (first | assumption | exact .refl _ | refine le_setBox ?_ (by first | assumption | exact none_in (by assumption) | exact none_in (none_in (by assumption)) | exact none_in (none_in (none_in (by assumption))) | fail) | exact Moves.le (by assumption) | refine .trans ?_ (Moves.le (by assumption))), by simp⟩ ?_
    · show xWeak [(1, .slc 2 (b.map eRow) .no), (2, .fn (.func 52) [] []), (15, .slc 2 (a.map eRow) .no), (16, .int .i64 a.length), (17, .int .i64 (0 : Nat))] _
      rw [List.length_map]
      repeat (first | exact trivial | refine ⟨by first | trivial | exact Weak.refl _ | exact Weak.tok _ _ _ | exact Weak.of_eq (congrArg (AV.int _) (by omega)) | exact Weak.of_eq (congrArg AV.bool (by fail)) | exact Weak.nils _ _ (.inr rfl), ?_⟩)
    rintro i s ⟨hi, hle, htk⟩; (conv => whnf)
    skip
    (refine SIf.x Ty.mixed (fun hc => ?_) (fun hc => ?_) <;> (conv => whnf))
    · have hlt : i < a.length := by simp at hc; omega
      have ga : a[i]? = some a[i] := by simp [hlt]
      have gb : b[i]? = some (b[i]'(by omega)) := List.getElem?_eq_getElem (by omega)
      have ht := take_succ_iff hlt (show i < b.length by omega) htk
      generalize a[i] = x at ga ht
      generalize b[i]'(by omega) = y at gb ht
      clear hc
      refine ⟨_, ⟨by first | omega | (simp only [List.length_cons, List.length_append, List.length_nil, List.length_map, length_aBytes, List.length_replicate, List.length_range]; omega) | fail, by first | exact get_map ga | exact get_map gb | fail⟩, ?_⟩
      (conv => whnf); intro b1 hb1; (conv => whnf); refine SStore.on 0 rfl ?_; (conv => whnf)
      refine ⟨_, ⟨by first | omega | (simp only [List.length_cons, List.length_append, List.length_nil, List.length_map, length_aBytes, List.length_replicate, List.length_range]; omega) | fail, by first | exact get_map ga | exact get_map gb | fail⟩, ?_⟩
      (conv => whnf); intro b1 hb1; (conv => whnf); refine SStore.on 0 rfl ?_; (conv => whnf); refine SLoad.on 1 rfl ?_; (conv => whnf); refine SLoad.on 0 rfl ?_; (conv => whnf); refine SCall.p (by exact same2_any w0 _ _) ?_; (conv => whnf)
      (refine SIf.x Ty.mixed (fun hc => ?_) (fun hc => ?_) <;> (conv => whnf))
      · skip
        refine .p (by repeat (first | assumption | exact .refl _ | refine le_new2 ?_ (by assumption) | refine le_new ?_ (by assumption) | refine le_setBox ?_ (by first | assumption | exact none_in (by assumption) | exact none_in (none_in (by assumption)) | exact none_in (none_in (none_in (by assumption))) | fail) | exact Moves.le (by assumption) | refine .trans ?_ (Moves.le (by assumption)))) ?_
        have : ¬ a = b := fun e => by subst e; rw [ga] at gb; cases gb; simp at hc
        simp [this]
      · have hxy : x = y := by simpa using hc
        refine ⟨_, IntWalk.i64_in _ (by omega), ?_⟩; (conv => whnf)
        exact ⟨i + 1, by omega, by repeat (first | exact trivial | refine ⟨by first | trivial | exact Weak.refl _ | exact Weak.tok _ _ _ | exact Weak.of_eq (congrArg (AV.int _) (by omega)) | exact Weak.of_eq (congrArg AV.bool (by fail)) | exact Weak.nils _ _ (.inr rfl), ?_⟩), BSub.none _, by omega, by repeat (first | assumption | exact .refl _ | refine le_new2 ?_ (by assumption) | refine le_new ?_ (by assumption) | refine le_setBox ?_ (by first | assumption | exact none_in (by assumption) | exact none_in (none_in (by assumption)) | exact none_in (none_in (none_in (by assumption))) | fail) | exact Moves.le (by assumption) | refine .trans ?_ (Moves.le (by assumption))), ht.2 hxy⟩
    · have hge : i = a.length := by simp at hc; omega
      skip
      refine .p (by repeat (first | assumption | exact .refl _ | refine le_new2 ?_ (by assumption) | refine le_new ?_ (by assumption) | refine le_setBox ?_ (by first | assumption | exact none_in (by assumption) | exact none_in (none_in (by assumption)) | exact none_in (none_in (none_in (by assumption))) | fail) | exact Moves.le (by assumption) | refine .trans ?_ (Moves.le (by assumption)))) ?_
      have : a = b := by rw [hge, List.take_length, hlen, List.take_length] at htk; exact htk
      simp [this]
theorem XAt.know {τ s : St} {bx : Nat} {x : Sub} {ac qv : AV} {ra rq : Option Nat} (h : XAt τ s bx x ac qv ra rq) {B : BL} (hB : Know τ B) : Know s ((bx, xc x ac qv) :: B) := ⟨fun p hp => by
  rcases List.mem_cons.1 hp with rfl | hp
  · exact h.hbx
  · exact h.le.box _ _ (hB.has p hp), by
  rw [List.map_cons, List.nodup_cons]
  refine ⟨fun hm => ?_, hB.nd⟩
  obtain ⟨p, hp, e⟩ := List.mem_map.1 hm
  have := hB.has p hp
  rw [e, h.bxn] at this; cases this⟩
theorem ints_one (l : List Int) : ∀ x ∈ l.map (AV.int .i64), x.cells.length = 1 ∧ ∀ c ∈ x.cells, c.one = true := fun x hx => by
  obtain ⟨n, _, rfl⟩ := List.mem_map.1 hx; exact ⟨rfl, fun c hc => by simp [AV.cells] at hc; subst hc; rfl⟩
theorem msgs_one (l : List Msg) : ∀ x ∈ l.map eMsg, x.cells.length = 8 ∧ ∀ c ∈ x.cells, c.one = true := fun x hx => by
  obtain ⟨n, _, rfl⟩ := List.mem_map.1 hx; exact ⟨rfl, fun c hc => by simp [AV.cells, eMsg] at hc; rcases hc with rfl | rfl | rfl | rfl | rfl | rfl | rfl | rfl <;> rfl⟩
theorem XAt.seal {τ σ : St} {bx : Nat} {x : Sub} {ac qv : AV} {ra rq : Option Nat} (h : XAt τ σ bx x ac qv ra rq) {P : Program} {w0 : Base} {f : FuncId} {args : List AV} {K : AV → St → Prop} (hk : ∀ s, St.Le τ s → s.box bx = some (xc x (eInts x.acks) (eMsgs x.queue)) → CallW P w0 f args s K) : CallW P w0 f args σ K := by
  have step1 : ∀ σ1, St.Le τ σ1 → σ1.box bx = some (xc x (eInts x.acks) qv) → RowV σ1 8 (x.queue.map eMsg) qv rq → CallW P w0 f args σ1 K := by
    intro σ1 hl hb hq
    cases hq with
    | nil h0 =>
      refine CallW.sealNil (sz := 8) (pre := [.int .i64 x.id, .str x.name, .str x.topic, .str x.want, .int .i64 x.lease, .int .i64 x.most, .int .i64 x.floor, eInts x.acks]) (post := [.str x.note]) hb (hk _ (le_setBox hl h.bxn) ?_)
      rw [setBox_same, eMsgs, h0]; rfl
    | own b cap junk hbb hc hl2 =>
      refine CallW.seal (sz := 8) (pre := [.int .i64 x.id, .str x.name, .str x.topic, .str x.want, .int .i64 x.lease, .int .i64 x.most, .int .i64 x.floor, eInts x.acks]) (post := [.str x.note]) hb hbb (Ne.symm (h.qn _ rfl).2) (msgs_one _) (hk _ (le_setBox (le_del hl (h.qn _ rfl).1) h.bxn) ?_)
      rw [setBox_same]; rfl
  cases ha : h.a with
  | nil h0 =>
    refine CallW.sealNil (sz := 1) (pre := [.int .i64 x.id, .str x.name, .str x.topic, .str x.want, .int .i64 x.lease, .int .i64 x.most, .int .i64 x.floor]) (post := [qv, .str x.note]) h.hbx (step1 _ (le_setBox h.le h.bxn) ?_ (h.q.set fun e => (h.qn _ e).2 rfl))
    rw [setBox_same, eInts, h0]; rfl
  | own b cap junk hbb hc hl2 =>
    refine CallW.seal (sz := 1) (pre := [.int .i64 x.id, .str x.name, .str x.topic, .str x.want, .int .i64 x.lease, .int .i64 x.most, .int .i64 x.floor]) (post := [qv, .str x.note]) h.hbx hbb (Ne.symm (h.an _ rfl).2) (ints_one _) (step1 _ (le_setBox (le_del h.le (h.an _ rfl).1) h.bxn) ?_ ?_)
    · rw [setBox_same]; rfl
    · exact (h.q.keep fun c cs e hcc => by rw [del_ne (fun e2 => h.aq _ rfl (by rw [e, e2]))]; exact hcc).set fun e => (h.qn _ e).2 rfl
end Go.Proofs.YtkbmkhhcppfcnaaGreatDoor
end
section
set_option linter.unusedVariables false
set_option linter.unusedSimpArgs false
set_option maxRecDepth 100000
set_option maxHeartbeats 1000000
namespace Go.Proofs.YtkbmkhhcppfcnaaGreatDoor
open Go.Al Go.RowKit
theorem rising1_any (w0 : Base) (l : List Row) (tk : Tok) (hl : l.length ≤ 1000000) : CallP Tryz.prog w0 44 [.slc 2 (l.map eRow) tk] (.bool (upTo l l.length)) := by
  refine CallP.x Ty.tok Ty.mixed Tryz.func44 rfl Tryz.ntmps44 rfl (by simp) (by decide +kernel) fun σ => ?_
  (conv => whnf)
  skip
  refine SLoop.by Ty.mixed (fun i => l.length - i) (fun i => [(0, .slc 2 (l.map eRow) .no), (5, .int .i64 l.length), (6, .int .i64 i)]) (fun _ => []) (fun i s => i ≤ l.length ∧ upTo l i = true ∧ s = σ) 0 ⟨?_, BSub.none _, Nat.zero_le _, rfl, rfl⟩ ?_
  · show xWeak [(0, .slc 2 (l.map eRow) .no), (5, .int .i64 l.length), (6, .int .i64 (0 : Nat))] _
    rw [List.length_map]
    repeat (first | exact trivial | refine ⟨by first | trivial | exact Weak.refl _ | exact Weak.tok _ _ _ | exact Weak.of_eq (congrArg (AV.int _) (by omega)) | exact Weak.of_eq (congrArg AV.bool (by fail)) | exact Weak.nils _ _ (.inr rfl), ?_⟩)
  rintro i s ⟨hi, hu, rfl⟩; (conv => whnf)
  skip
  (refine SIf.x Ty.mixed (fun hc => ?_) (fun hc => ?_) <;> (conv => whnf))
  · have hlt : i < l.length := by simp at hc; omega
    have ga : l[i]? = some l[i] := by simp [hlt]
    have hup : upTo l (i + 1) = (upTo l i && (decide (i = 0) || !leS ((l[i]?.getD ⟨[], []⟩).key) ((l[i - 1]?.getD ⟨[], []⟩).key))) := rfl
    by_cases h0 : i = 0
    · subst h0
      have d3 : decide ((0 : Int) < ((0 : Nat) : Int)) = false := rfl
      refine SReg.d [0, 1, 2, 3, 4, 5, 6, 7, 8, 9, 10, 11, 12, 13, 14, 15] [0, 0, 0, 0, 0, 0, 0, 0, 0, 0, 0, 0, 0, 0, 0, 0] (by decide +kernel) ?_; (conv => whnf); (conv => whnf); refine SCond.n (by exact rfl) ?_; (conv => whnf); refine SCond.n (by exact rfl) ?_; (conv => whnf); refine SCond.n (by exact rfl) ?_; (conv => whnf); refine SCond.n (by exact rfl) ?_; (conv => whnf); refine SCond.n (by exact rfl) ?_; (conv => whnf); refine SCond.n (by exact rfl) ?_; (conv => whnf)
      refine SCond.n (by exact rfl) ?_; (conv => whnf); refine SCond.n (by exact rfl) ?_; (conv => whnf); refine SCond.n (by exact rfl) ?_; (conv => whnf); refine SCond.n (by exact rfl) ?_; (conv => whnf); refine SCond.n (by exact rfl) ?_; (conv => whnf); refine SCond.n (by exact rfl) ?_; (conv => whnf); refine SPick.n (by exact rfl) ?_; (conv => whnf); refine SIf.n Ty.mixed (by exact rfl) ?_
      (conv => whnf); refine ⟨_, IntWalk.i64_in _ (by omega), ?_⟩; (conv => whnf)
      exact ⟨0 + 1, by omega, ⟨by repeat (first | exact trivial | refine ⟨by first | trivial | exact Weak.refl _ | exact Weak.tok _ _ _ | exact Weak.of_eq (congrArg (AV.int _) (by omega)) | exact Weak.of_eq (congrArg AV.bool (by fail)) | exact Weak.nils _ _ (.inr rfl), ?_⟩), BSub.none _, by omega, rfl, rfl⟩⟩
    · have d3 : decide ((0 : Int) < (i : Int)) = true := decide_eq_true (by omega)
      have gp : l[((i : Int) - 1).toNat]? = some (l[i - 1]'(by omega)) := by rw [show ((i : Int) - 1).toNat = i - 1 by omega]; simp
      have gp' : l[i - 1]? = some (l[i - 1]'(by omega)) := by simp
      rw [hu, ga, gp', Option.getD_some, Option.getD_some] at hup
      generalize l[i] = x at ga hup
      generalize l[i - 1]'(by omega) = y at gp hup gp'
      refine SReg.d [0, 1, 2, 3, 4, 5, 6, 7, 8, 9, 10, 11, 12, 13, 14, 15] [0, 0, 0, 0, 0, 0, 0, 0, 0, 0, 0, 0, 0, 0, 0, 0] (by decide +kernel) ?_; (conv => whnf); (conv => whnf); refine SCond.y (by assumption) ?_; (conv => whnf); refine SCond.y (by assumption) ?_; (conv => whnf); refine SCond.y (by assumption) ?_; (conv => whnf)
      refine ⟨_, ⟨by first | omega | (simp only [List.length_cons, List.length_append, List.length_nil, List.length_map, length_aBytes, List.length_replicate, List.length_range]; omega) | fail, by first | exact get_map ga | exact get_map gp | fail⟩, ?_⟩
      (conv => whnf); refine SCond.y (by assumption) ?_; (conv => whnf); refine SCond.y (by assumption) ?_; (conv => whnf); refine SCond.y (by assumption) ?_; (conv => whnf); refine SCond.y (by assumption) ?_; (conv => whnf); refine SCond.y (by assumption) ?_; (conv => whnf); refine ⟨_, IntWalk.i64_in _ (by omega), ?_⟩; (conv => whnf); refine SCond.y (by assumption) ?_; (conv => whnf)
      refine ⟨_, ⟨by first | omega | (simp only [List.length_cons, List.length_append, List.length_nil, List.length_map, length_aBytes, List.length_replicate, List.length_range]; omega) | fail, by first | exact get_map ga | exact get_map gp | fail⟩, ?_⟩
      (conv => whnf); refine SCond.y (by assumption) ?_; (conv => whnf); refine SCond.y (by assumption) ?_; (conv => whnf); refine SCond.y (by assumption) ?_; (conv => whnf); refine SPick.y (by assumption) ?_; (conv => whnf)
      (refine SIf.x Ty.mixed (fun hc => ?_) (fun hc => ?_) <;> (conv => whnf))
      · skip
        refine .p (.refl _) ?_
        have : upTo l (i + 1) = false := by rw [hup]; simp only [leS]; rw [hc]; simp [h0]
        rw [upTo_false (show i + 1 ≤ l.length by omega) this]
      · refine ⟨_, IntWalk.i64_in _ (by omega), ?_⟩
        (conv => whnf)
        refine ⟨i + 1, by omega, ⟨by repeat (first | exact trivial | refine ⟨by first | trivial | exact Weak.refl _ | exact Weak.tok _ _ _ | exact Weak.of_eq (congrArg (AV.int _) (by omega)) | exact Weak.of_eq (congrArg AV.bool (by fail)) | exact Weak.nils _ _ (.inr rfl), ?_⟩), BSub.none _, by omega, ?_, rfl⟩⟩
        rw [hup]; simp only [leS]; rw [hc]; simp
  · have hge : i = l.length := by simp at hc; omega
    subst hge
    skip
    exact .p (.refl _) (by rw [hu])
theorem eqRows1_any (w0 : Base) (a b : List Row) (ta tb : Tok) (ha : a.length ≤ 1000000000) : CallP Tryz.prog w0 45 [.slc 2 (a.map eRow) ta, .slc 2 (b.map eRow) tb, .fn (.func 46) [] []] (.bool (decide (a = b))) := by
  refine CallP.x Ty.tok Ty.mixed Tryz.func45 rfl Tryz.ntmps45 rfl (by simp) (by decide +kernel) fun σ => ?_
  (conv => whnf)
  skip
  (refine SIf.x Ty.mixed (fun hc => ?_) (fun hc => ?_) <;> (conv => whnf))
  · skip
    refine .p (.refl _) ?_
    have : ¬ a = b := by rintro rfl; simp at hc
    simp [this]
  · have hlen : a.length = b.length := by simp at hc; omega
    clear hc
    skip
    refine SLoop.by Ty.mixed (fun i => a.length - i) (fun i => [(1, .slc 2 (b.map eRow) .no), (2, .fn (.func 46) [] []), (15, .slc 2 (a.map eRow) .no), (16, .int .i64 a.length), (17, .int .i64 i)]) (fun _ => []) (fun i s => i ≤ a.length ∧ St.Le σ s ∧ a.take i = b.take i) 0 ⟨?_, BSub.none _, Nat.zero_le _, by repeat (first | assumption | exact .refl _ | refine le_setBox ?_ (by first | assumption | exact none_in (by assumption) | exact none_in (none_in (by assumption)) | exact none_in (none_in (none_in (by assumption))) | fail) | exact Moves.le (by assumption) | refine .trans ?_ (Moves.le (by assumption))), by simp⟩ ?_
    · show xWeak [(1, .slc 2 (b.map eRow) .no), (2, .fn (.func 46) [] []), (15, .slc 2 (a.map eRow) .no), (16, .int .i64 a.length), (17, .int .i64 (0 : Nat))] _
      rw [List.length_map]
      repeat (first | exact trivial | refine ⟨by first | trivial | exact Weak.refl _ | exact Weak.tok _ _ _ | exact Weak.of_eq (congrArg (AV.int _) (by omega)) | exact Weak.of_eq (congrArg AV.bool (by fail)) | exact Weak.nils _ _ (.inr rfl), ?_⟩)
    rintro i s ⟨hi, hle, htk⟩; (conv => whnf)
    skip
    (refine SIf.x Ty.mixed (fun hc => ?_) (fun hc => ?_) <;> (conv => whnf))
    · have hlt : i < a.length := by simp at hc; omega
      have ga : a[i]? = some a[i] := by simp [hlt]
      have gb : b[i]? = some (b[i]'(by omega)) := List.getElem?_eq_getElem (by omega)
      have ht := take_succ_iff hlt (show i < b.length by omega) htk
      generalize a[i] = x at ga ht
      generalize b[i]'(by omega) = y at gb ht
      clear hc
      refine ⟨_, ⟨by first | omega | (simp only [List.length_cons, List.length_append, List.length_nil, List.length_map, length_aBytes, List.length_replicate, List.length_range]; omega) | fail, by first | exact get_map ga | exact get_map gb | fail⟩, ?_⟩
      (conv => whnf); intro b1 hb1; (conv => whnf); refine SStore.on 0 rfl ?_; (conv => whnf)
      refine ⟨_, ⟨by first | omega | (simp only [List.length_cons, List.length_append, List.length_nil, List.length_map, length_aBytes, List.length_replicate, List.length_range]; omega) | fail, by first | exact get_map ga | exact get_map gb | fail⟩, ?_⟩
      (conv => whnf); intro b1 hb1; (conv => whnf); refine SStore.on 0 rfl ?_; (conv => whnf); refine SLoad.on 1 rfl ?_; (conv => whnf); refine SLoad.on 0 rfl ?_; (conv => whnf); refine SCall.p (by exact same1_any w0 _ _) ?_; (conv => whnf)
      (refine SIf.x Ty.mixed (fun hc => ?_) (fun hc => ?_) <;> (conv => whnf))
      · skip
        refine .p (by repeat (first | assumption | exact .refl _ | refine le_new2 ?_ (by assumption) | refine le_new ?_ (by assumption) | refine le_setBox ?_ (by first | assumption | exact none_in (by assumption) | exact none_in (none_in (by assumption)) | exact none_in (none_in (none_in (by assumption))) | fail) | exact Moves.le (by assumption) | refine .trans ?_ (Moves.le (by assumption)))) ?_
        have : ¬ a = b := fun e => by subst e; rw [ga] at gb; cases gb; simp at hc
        simp [this]
      · have hxy : x = y := by simpa using hc
        refine ⟨_, IntWalk.i64_in _ (by omega), ?_⟩; (conv => whnf)
        exact ⟨i + 1, by omega, by repeat (first | exact trivial | refine ⟨by first | trivial | exact Weak.refl _ | exact Weak.tok _ _ _ | exact Weak.of_eq (congrArg (AV.int _) (by omega)) | exact Weak.of_eq (congrArg AV.bool (by fail)) | exact Weak.nils _ _ (.inr rfl), ?_⟩), BSub.none _, by omega, by repeat (first | assumption | exact .refl _ | refine le_new2 ?_ (by assumption) | refine le_new ?_ (by assumption) | refine le_setBox ?_ (by first | assumption | exact none_in (by assumption) | exact none_in (none_in (by assumption)) | exact none_in (none_in (none_in (by assumption))) | fail) | exact Moves.le (by assumption) | refine .trans ?_ (Moves.le (by assumption))), ht.2 hxy⟩
    · have hge : i = a.length := by simp at hc; omega
      skip
      refine .p (by repeat (first | assumption | exact .refl _ | refine le_new2 ?_ (by assumption) | refine le_new ?_ (by assumption) | refine le_setBox ?_ (by first | assumption | exact none_in (by assumption) | exact none_in (none_in (by assumption)) | exact none_in (none_in (none_in (by assumption))) | fail) | exact Moves.le (by assumption) | refine .trans ?_ (Moves.le (by assumption)))) ?_
      have : a = b := by rw [hge, List.take_length, hlen, List.take_length] at htk; exact htk
      simp [this]
end Go.Proofs.YtkbmkhhcppfcnaaGreatDoor
end
section
set_option linter.unusedVariables false
set_option linter.unusedSimpArgs false
set_option maxRecDepth 100000
set_option maxHeartbeats 1000000
namespace Go.Proofs.YtkbmkhhcppfcnaaGreatDoor
open Go.Al Go.RowKit
def dc (x : Sub) (ac qv : AV) (sq : Int) (rp : AV) : List AV := [.int .i64 x.id, .str x.name, .str x.topic, .str x.want, .int .i64 x.lease, .int .i64 x.most, .int .i64 x.floor, ac, qv, .str x.note, .int .i64 sq, rp]
structure DAt (τ σ : St) (bx : Nat) (x : Sub) (ac qv : AV) (ra rq : Option Nat) (sq : Int) (rp : AV) : Prop where
  le : St.Le τ σ
  hbx : σ.box bx = some (dc x ac qv sq rp)
  bxn : τ.box bx = none
  a : RowV σ 1 (x.acks.map (AV.int .i64)) ac ra
  q : RowV σ 8 (x.queue.map eMsg) qv rq
  an : ∀ b, ra = some b → τ.box b = none ∧ b ≠ bx
  qn : ∀ b, rq = some b → τ.box b = none ∧ b ≠ bx
  aq : ∀ b, ra = some b → rq ≠ some b
section
variable {τ σ σ' : St} {bx : Nat} {x : Sub} {ac qv : AV} {ra rq : Option Nat} {sq : Int} {rp : AV}
theorem DAt.ra_ne (h : DAt τ σ bx x ac qv ra rq sq rp) {c : Nat} (hc : σ.box c = none) : ra ≠ some c := by
  intro e; subst e; exact RowV.has h.a hc
theorem DAt.rq_ne (h : DAt τ σ bx x ac qv ra rq sq rp) {c : Nat} (hc : σ.box c = none) : rq ≠ some c := by
  intro e; subst e; exact RowV.has h.q hc
theorem DAt.ne (h : DAt τ σ bx x ac qv ra rq sq rp) {c : Nat} (hc : σ.box c = none) : c ≠ bx := fun e => by rw [e, h.hbx] at hc; cases hc
theorem DAt.other (h : DAt τ σ bx x ac qv ra rq sq rp) {c : Nat} (hc : τ.box c = none) (h1 : c ≠ bx) (h2 : ra ≠ some c) (h3 : rq ≠ some c) (ds : List AV) : DAt τ (σ.setBox c ds) bx x ac qv ra rq sq rp :=
  ⟨le_setBox h.le hc, by rw [setBox_ne (Ne.symm h1)]; exact h.hbx, h.bxn, h.a.set h2, h.q.set h3, h.an, h.qn, h.aq⟩
theorem DAt.fresh (h : DAt τ σ bx x ac qv ra rq sq rp) {c : Nat} (hc : σ.box c = none) (ds : List AV) : DAt τ (σ.setBox c ds) bx x ac qv ra rq sq rp := h.other (le_none h.le hc) (h.ne hc) (h.ra_ne hc) (h.rq_ne hc) ds
theorem DAt.own (h : DAt τ σ bx x ac qv ra rq sq rp) (y : Sub) (s2 : Int) (r2 : AV) (ha : y.acks = x.acks) (hq : y.queue = x.queue) : DAt τ (σ.setBox bx (dc y ac qv s2 r2)) bx y ac qv ra rq s2 r2 :=
  ⟨le_setBox h.le h.bxn, setBox_same, h.bxn, by rw [ha]; exact h.a.set (fun e => (h.an _ e).2 rfl), by rw [hq]; exact h.q.set (fun e => (h.qn _ e).2 rfl), h.an, h.qn, h.aq⟩
theorem DAt.obj (h : DAt τ σ bx x ac qv ra rq sq rp) {l : Nat} {q : Option Ob} (hl : τ.obj l = none) : DAt τ (σ.setObj l q) bx x ac qv ra rq sq rp :=
  ⟨le_setObj h.le hl, h.hbx, h.bxn, h.a.keep fun _ _ _ h => h, h.q.keep fun _ _ _ h => h, h.an, h.qn, h.aq⟩
theorem DAt.appA (h : DAt τ σ bx x ac qv ra rq sq rp) {n : Int} {b' n' cap' : Nat}
    (hR : RowV σ' 1 (x.acks.map (AV.int .i64) ++ [.int .i64 n]) (.msl b' 0 n' cap') (some b')) (hf : ra = some b' ∨ σ.box b' = none) (hk : ∀ i cs, ra ≠ some i → σ.box i = some cs → σ'.box i = some cs) (ht : σ'.tok = σ.tok ∧ σ'.obj = σ.obj) :
    DAt τ (σ'.setBox bx (dc { x with acks := x.acks ++ [n] } (.msl b' 0 n' cap') qv sq rp)) bx { x with acks := x.acks ++ [n] } (.msl b' 0 n' cap') qv (some b') rq sq rp := by
  have hb : τ.box b' = none ∧ b' ≠ bx ∧ rq ≠ some b' := by
    rcases hf with hf | hf
    · exact ⟨(h.an _ hf).1, (h.an _ hf).2, h.aq _ hf⟩
    · exact ⟨le_none h.le hf, h.ne hf, h.rq_ne hf⟩
  obtain ⟨hb1, hb2, hb3⟩ := hb
  refine ⟨le_setBox ⟨fun i cs e => hk i cs (fun e2 => ?_) (h.le.box i cs e), fun p e => by rw [ht.1]; exact h.le.tok p e, fun l o e => by rw [ht.2]; exact h.le.obj l o e⟩ h.bxn, setBox_same, h.bxn, ?_, ?_, fun b e => ?_, h.qn, fun b e => ?_⟩
  · have := (h.an _ e2).1
    rw [e] at this; cases this
  · have e1 : ({ x with acks := x.acks ++ [n] } : Sub).acks.map (AV.int .i64) = x.acks.map (AV.int .i64) ++ [.int .i64 n] := by simp
    rw [e1]
    exact hR.set (fun e => hb2 (Option.some.inj e))
  · exact (h.q.keep fun b cs e hbb => hk b cs (fun e2 => h.aq _ e2 e) hbb).set fun e => (h.qn _ e).2 rfl
  · cases e; exact ⟨hb1, hb2⟩
  · cases e; exact hb3
theorem DAt.appQ (h : DAt τ σ bx x ac qv ra rq sq rp) {m : Msg} {b' n' cap' : Nat}
    (hR : RowV σ' 8 (x.queue.map eMsg ++ [eMsg m]) (.msl b' 0 n' cap') (some b')) (hf : rq = some b' ∨ σ.box b' = none) (hk : ∀ i cs, rq ≠ some i → σ.box i = some cs → σ'.box i = some cs) (ht : σ'.tok = σ.tok ∧ σ'.obj = σ.obj) :
    DAt τ (σ'.setBox bx (dc { x with queue := x.queue ++ [m] } ac (.msl b' 0 n' cap') sq rp)) bx { x with queue := x.queue ++ [m] } ac (.msl b' 0 n' cap') ra (some b') sq rp := by
  have hb : τ.box b' = none ∧ b' ≠ bx ∧ ra ≠ some b' := by
    rcases hf with hf | hf
    · exact ⟨(h.qn _ hf).1, (h.qn _ hf).2, fun e => h.aq _ e hf⟩
    · exact ⟨le_none h.le hf, h.ne hf, h.ra_ne hf⟩
  obtain ⟨hb1, hb2, hb3⟩ := hb
  refine ⟨le_setBox ⟨fun i cs e => hk i cs (fun e2 => ?_) (h.le.box i cs e), fun p e => by rw [ht.1]; exact h.le.tok p e, fun l o e => by rw [ht.2]; exact h.le.obj l o e⟩ h.bxn, setBox_same, h.bxn, ?_, ?_, h.an, fun b e => ?_, fun b e e2 => ?_⟩
  · have := (h.qn _ e2).1
    rw [e] at this; cases this
  · exact (h.a.keep fun b cs e hbb => hk b cs (fun e2 => h.aq _ e e2) hbb).set fun e => (h.an _ e).2 rfl
  · have e1 : ({ x with queue := x.queue ++ [m] } : Sub).queue.map eMsg = x.queue.map eMsg ++ [eMsg m] := by simp
    rw [e1]
    exact hR.set (fun e => hb2 (Option.some.inj e))
  · cases e; exact ⟨hb1, hb2⟩
  · cases e2; exact hb3 e
theorem DAt.know {τ s : St} (h : DAt τ s bx x ac qv ra rq sq rp) {B : BL} (hB : Know τ B) : Know s ((bx, dc x ac qv sq rp) :: B) := ⟨fun p hp => by
  rcases List.mem_cons.1 hp with rfl | hp
  · exact h.hbx
  · exact h.le.box _ _ (hB.has p hp), by
  rw [List.map_cons, List.nodup_cons]
  refine ⟨fun hm => ?_, hB.nd⟩
  obtain ⟨p, hp, e⟩ := List.mem_map.1 hm
  have := hB.has p hp
  rw [e, h.bxn] at this; cases this⟩
theorem DAt.seal (h : DAt τ σ bx x ac qv ra rq sq rp) {P : Program} {w0 : Base} {f : FuncId} {args : List AV} {K : AV → St → Prop} (hk : ∀ s, St.Le τ s → s.box bx = some (dc x (eInts x.acks) (eMsgs x.queue) sq rp) → CallW P w0 f args s K) : CallW P w0 f args σ K := by
  have step1 : ∀ σ1, St.Le τ σ1 → σ1.box bx = some (dc x (eInts x.acks) qv sq rp) → RowV σ1 8 (x.queue.map eMsg) qv rq → CallW P w0 f args σ1 K := by
    intro σ1 hl hb hq
    cases hq with
    | nil h0 =>
      refine CallW.sealNil (sz := 8) (pre := [.int .i64 x.id, .str x.name, .str x.topic, .str x.want, .int .i64 x.lease, .int .i64 x.most, .int .i64 x.floor, eInts x.acks]) (post := [.str x.note, .int .i64 sq, rp]) hb (hk _ (le_setBox hl h.bxn) ?_)
      rw [setBox_same, eMsgs, h0]; rfl
    | own b cap junk hbb hc hl2 =>
      refine CallW.seal (sz := 8) (pre := [.int .i64 x.id, .str x.name, .str x.topic, .str x.want, .int .i64 x.lease, .int .i64 x.most, .int .i64 x.floor, eInts x.acks]) (post := [.str x.note, .int .i64 sq, rp]) hb hbb (Ne.symm (h.qn _ rfl).2) (msgs_one _) (hk _ (le_setBox (le_del hl (h.qn _ rfl).1) h.bxn) ?_)
      rw [setBox_same]; rfl
  cases ha : h.a with
  | nil h0 =>
    refine CallW.sealNil (sz := 1) (pre := [.int .i64 x.id, .str x.name, .str x.topic, .str x.want, .int .i64 x.lease, .int .i64 x.most, .int .i64 x.floor]) (post := [qv, .str x.note, .int .i64 sq, rp]) h.hbx (step1 _ (le_setBox h.le h.bxn) ?_ (h.q.set fun e => (h.qn _ e).2 rfl))
    rw [setBox_same, eInts, h0]; rfl
  | own b cap junk hbb hc hl2 =>
    refine CallW.seal (sz := 1) (pre := [.int .i64 x.id, .str x.name, .str x.topic, .str x.want, .int .i64 x.lease, .int .i64 x.most, .int .i64 x.floor]) (post := [qv, .str x.note, .int .i64 sq, rp]) h.hbx hbb (Ne.symm (h.an _ rfl).2) (ints_one _) (step1 _ (le_setBox (le_del h.le (h.an _ rfl).1) h.bxn) ?_ ?_)
    · rw [setBox_same]; rfl
    · exact (h.q.keep fun c cs e hcc => by rw [del_ne (fun e2 => h.aq _ rfl (by rw [e, e2]))]; exact hcc).set fun e => (h.qn _ e).2 rfl
end
theorem dack_any (w0 : Base) (x : Sub) (ac qv : AV) (ra rq : Option Nat) (sq : Int) (rp : AV) (hrp : rp = .nilp ∨ ∃ br, rp = .ptr br 0) (τ σ : St) (bd : Nat) (hn : x.acks.length ≤ 1000000) (hx : DAt τ σ bd x ac qv ra rq sq rp) :
    CallW Tryz.prog w0 37 [.ptr bd 0] σ (fun r s => r = .tup [] ∧ ∃ ac' ra', DAt τ s bd { x with acks := x.acks ++ [sq] } ac' qv ra' rq sq rp) := by
  refine CallW.x (B := [(bd, dc x ac qv sq rp)]) Ty.tok Ty.mixed Tryz.func37 rfl Tryz.ntmps37 rfl (by simp) (by decide +kernel) ⟨by simp [hx.hbx], by simp⟩ ?_
  have hx' := hx
  obtain ⟨_, _, _, hxa, _⟩ := hx'
  cases hxa with
  | nil h0 =>
    (conv => whnf); refine SReg.d [0, 1, 2, 3, 4, 6, 7, 8, 5, 9, 10, 11, 12, 13, 14, 15] [0, 0, 0, 0, 0, 1, 0, 0, 0, 1, 0, 2, 0, 0, 0, 2] (by decide +kernel) ?_; (conv => whnf); (conv => whnf); refine SLoad.on 0 rfl ?_; (conv => whnf); refine SLoad.on 0 rfl ?_; (conv => whnf)
    refine SApp.row rfl hx.a rfl (ints_sz _) rfl (by simp only [List.length_map]; omega) (by simp) fun b' cap' σ' q1 q2 q3 q4 => ?_
    (conv => whnf); refine SStore.on 0 rfl ?_; (conv => whnf); exact .w ⟨rfl, _, _, hx.appA q1 q2 q3 q4⟩
  | own b cap junk hb hc hl =>
    (conv => whnf); refine SReg.d [0, 1, 2, 3, 4, 6, 7, 8, 5, 9, 10, 11, 12, 13, 14, 15] [0, 0, 0, 0, 0, 1, 0, 0, 0, 1, 0, 2, 0, 0, 0, 2] (by decide +kernel) ?_; (conv => whnf); (conv => whnf); refine SLoad.on 0 rfl ?_; (conv => whnf); refine SLoad.on 0 rfl ?_; (conv => whnf)
    refine SApp.row rfl hx.a rfl (ints_sz _) rfl (by simp only [List.length_map]; omega) (by simp only [List.mem_cons, List.not_mem_nil, or_false, forall_eq]; exact fun e => (hx.an _ e).2 rfl) fun b' cap' σ' q1 q2 q3 q4 => ?_
    (conv => whnf); refine SStore.on 0 rfl ?_; (conv => whnf); exact .w ⟨rfl, _, _, hx.appA q1 q2 q3 q4⟩
end Go.Proofs.YtkbmkhhcppfcnaaGreatDoor
end
section
set_option linter.unusedVariables false
set_option linter.unusedSimpArgs false
set_option maxRecDepth 100000
set_option maxHeartbeats 1000000
namespace Go.Proofs.YtkbmkhhcppfcnaaGreatDoor
open Go.Al Go.RowKit
theorem dnote_any (w0 : Base) (v : List UInt8) (x : Sub) (ac qv : AV) (ra rq : Option Nat) (sq : Int) (τ σ : St) (bd br : Nat) (hv : v.length ≤ 1000000) (hx : DAt τ σ bd x ac qv ra rq sq (.ptr br 0)) (hr : σ.box br = some (rd2 v (0, false))) (hrn : τ.box br = none) (hne : br ≠ bd) (h1 : ra ≠ some br) (h2 : rq ≠ some br) :
    CallW Tryz.prog w0 38 [.ptr bd 0] σ (fun r s => r = .tup [] ∧ DAt τ s bd { x with note := (t2 v (0, false) 30).1 } ac qv ra rq sq (.ptr br 0)) := by
  refine CallW.x (B := [(br, rd2 v (0, false)), (bd, dc x ac qv sq (.ptr br 0))]) Ty.tok Ty.mixed Tryz.func38 rfl Tryz.ntmps38 rfl (by simp) (by decide +kernel) ⟨by simp [hr, hx.hbx], by simp [hne]⟩ ?_
  (conv => whnf); refine SLoad.on 1 rfl ?_; (conv => whnf); refine SCall.b 0 (fun hb => by exact rtext1_any w0 v _ 30 br _ hv (Nat.zero_le _) (by decide) hb) rfl rfl ?_; (conv => whnf); refine SStore.on 1 rfl ?_; (conv => whnf); exact .w ⟨rfl, (hx.other hrn hne h1 h2 _).own { x with note := (t2 v (0, false) 30).1 } sq _ rfl rfl⟩
theorem dwant_any (w0 : Base) (v : List UInt8) (x : Sub) (ac qv : AV) (ra rq : Option Nat) (sq : Int) (τ σ : St) (bd br : Nat) (hv : v.length ≤ 1000000) (hx : DAt τ σ bd x ac qv ra rq sq (.ptr br 0)) (hr : σ.box br = some (rd2 v (0, false))) (hrn : τ.box br = none) (hne : br ≠ bd) (h1 : ra ≠ some br) (h2 : rq ≠ some br) :
    CallW Tryz.prog w0 41 [.ptr bd 0] σ (fun r s => r = .tup [] ∧ DAt τ s bd { x with want := (t2 v (0, false) 30).1 } ac qv ra rq sq (.ptr br 0)) := by
  refine CallW.x (B := [(br, rd2 v (0, false)), (bd, dc x ac qv sq (.ptr br 0))]) Ty.tok Ty.mixed Tryz.func41 rfl Tryz.ntmps41 rfl (by simp) (by decide +kernel) ⟨by simp [hr, hx.hbx], by simp [hne]⟩ ?_
  (conv => whnf); refine SLoad.on 1 rfl ?_; (conv => whnf); refine SCall.b 0 (fun hb => by exact rtext1_any w0 v _ 30 br _ hv (Nat.zero_le _) (by decide) hb) rfl rfl ?_; (conv => whnf); refine SStore.on 1 rfl ?_; (conv => whnf); exact .w ⟨rfl, (hx.other hrn hne h1 h2 _).own { x with want := (t2 v (0, false) 30).1 } sq _ rfl rfl⟩
theorem dsub_any (w0 : Base) (v : List UInt8) (x : Sub) (ac qv : AV) (ra rq : Option Nat) (sq : Int) (τ σ : St) (bd br : Nat) (hv : v.length ≤ 1000000) (hx : DAt τ σ bd x ac qv ra rq sq (.ptr br 0)) (hr : σ.box br = some (rd2 v (0, false))) (hrn : τ.box br = none) (hne : br ≠ bd) (h1 : ra ≠ some br) (h2 : rq ≠ some br) :
    CallW Tryz.prog w0 40 [.ptr bd 0] σ (fun r s => r = .tup [] ∧ DAt τ s bd (sS1 v x) ac qv ra rq sq (.ptr br 0)) := by
  refine CallW.x (B := [(br, rd2 v (0, false)), (bd, dc x ac qv sq (.ptr br 0))]) Ty.tok Ty.mixed Tryz.func40 rfl Tryz.ntmps40 rfl (by simp) (by decide +kernel) ⟨by simp [hr, hx.hbx], by simp [hne]⟩ ?_
  have f1 := t2_far v (0, false) 30
  have f2 := t2_far v (t2 v (0, false) 30).2 30
  have f3 := n2_far v (t2 v (t2 v (0, false) 30).2 30).2
  have f4 := n2_far v (n2 v (t2 v (t2 v (0, false) 30).2 30).2).2
  have hbd := Ne.symm hne
  (conv => whnf); refine SReg.h 1 rfl [0, 1, 2, 3, 4, 7, 8, 9, 5, 10, 6, 11, 12, 13, 14, 15, 16, 17, 18, 19] [0, 0, 0, 0, 0, 3, 4, 0, 0, 0, 3, 4, 0, 0, 0, 2, 0, 0, 0, 2] (by decide +kernel) ?_; (conv => whnf); (conv => whnf); refine SLoadH.on 1 rfl rfl ?_; (conv => whnf); refine SLoadH.on 1 rfl rfl ?_; (conv => whnf)
  refine SCall.bH 0 (fun hb => by first | exact rtext1_any w0 v _ 30 br _ hv (by first | exact Nat.zero_le _ | omega) (by decide) hb | exact rnum1_any w0 v _ br _ hv (by omega) hb) rfl rfl (by intro p hp; cases hp; assumption) ?_; (conv => whnf)
  refine SCall.bH 0 (fun hb => by first | exact rtext1_any w0 v _ 30 br _ hv (by first | exact Nat.zero_le _ | omega) (by decide) hb | exact rnum1_any w0 v _ br _ hv (by omega) hb) rfl rfl (by intro p hp; cases hp; assumption) ?_; (conv => whnf); refine SStore.on 1 rfl ?_; (conv => whnf); refine SStore.on 1 rfl ?_; (conv => whnf)
  refine SReg.h 1 rfl [0, 1, 2, 3, 4, 5, 8, 9, 10, 13, 14, 15, 6, 11, 16, 7, 12, 17, 18, 19, 20, 21, 22, 23, 24, 25, 26, 27, 28, 29] [0, 0, 0, 0, 0, 0, 3, 4, 0, 0, 0, 3, 4, 0, 0, 0, 3, 4, 0, 0, 0, 2, 0, 0, 0, 2, 0, 0, 0, 2] (by decide +kernel) ?_; (conv => whnf); (conv => whnf); refine SLoadH.on 1 rfl rfl ?_; (conv => whnf); refine SLoadH.on 1 rfl rfl ?_; (conv => whnf); refine SLoadH.on 1 rfl rfl ?_; (conv => whnf)
  refine SCall.bH 0 (fun hb => by first | exact rtext1_any w0 v _ 30 br _ hv (by first | exact Nat.zero_le _ | omega) (by decide) hb | exact rnum1_any w0 v _ br _ hv (by omega) hb) rfl rfl (by intro p hp; cases hp; assumption) ?_; (conv => whnf)
  refine SCall.bH 0 (fun hb => by first | exact rtext1_any w0 v _ 30 br _ hv (by first | exact Nat.zero_le _ | omega) (by decide) hb | exact rnum1_any w0 v _ br _ hv (by omega) hb) rfl rfl (by intro p hp; cases hp; assumption) ?_; (conv => whnf)
  refine SCall.bH 0 (fun hb => by first | exact rtext1_any w0 v _ 30 br _ hv (by first | exact Nat.zero_le _ | omega) (by decide) hb | exact rnum1_any w0 v _ br _ hv (by omega) hb) rfl rfl (by intro p hp; cases hp; assumption) ?_; (conv => whnf); refine SStore.on 1 rfl ?_; (conv => whnf); refine SStore.on 1 rfl ?_; (conv => whnf); refine SStore.on 1 rfl ?_; (conv => whnf)
  have sc : ∀ (s : St) X Y, (s.setBox bd Y).setBox br X = (s.setBox br X).setBox bd Y := fun s X Y => setBox_comm hbd
  simp only [setBox_setBox, sc]
  exact .w ⟨rfl, (hx.other hrn hne h1 h2 _).own (sS1 v x) sq _ rfl rfl⟩
theorem dmsg_any (w0 : Base) (v : List UInt8) (x : Sub) (ac qv : AV) (ra rq : Option Nat) (sq : Int) (τ σ : St) (bd br : Nat) (hv : v.length ≤ 1000000) (hn : x.queue.length ≤ 1000000) (hx : DAt τ σ bd x ac qv ra rq sq (.ptr br 0)) (hr : σ.box br = some (rd2 v (0, false))) (hrn : τ.box br = none) (hne : br ≠ bd) (h1 : ra ≠ some br) (h2 : rq ≠ some br) :
    CallW Tryz.prog w0 39 [.ptr bd 0] σ (fun r s => r = .tup [] ∧ ∃ qv' rq', DAt τ s bd { x with queue := x.queue ++ [msg1 v sq] } ac qv' ra rq' sq (.ptr br 0)) := by
  refine CallW.x (B := [(br, rd2 v (0, false)), (bd, dc x ac qv sq (.ptr br 0))]) Ty.tok Ty.mixed Tryz.func39 rfl Tryz.ntmps39 rfl (by simp) (by decide +kernel) ⟨by simp [hr, hx.hbx], by simp [hne]⟩ ?_
  have f1 := t2_far v (0, false) 60
  have f2 := t2_far v (t2 v (0, false) 60).2 30
  have f3 := n2_far v (t2 v (t2 v (0, false) 60).2 30).2
  have f4 := n2_far v (n2 v (t2 v (t2 v (0, false) 60).2 30).2).2
  have hbd := Ne.symm hne
  have hs4 : ∃ s4, s4 = (n2 v (n2 v (t2 v (t2 v (0, false) 60).2 30).2).2).2 := ⟨_, rfl⟩
  obtain ⟨s4, hs4⟩ := hs4
  (conv => whnf); refine SReg.meet (fun bm => [(0, .ptr bd 0), (2, .ptr bm 0)]) (fun bm => [(bm, mc { msg1 v sq with dead := false }), (br, rd2 v s4), (bd, dc x ac qv sq (.ptr br 0))]) (fun bm s => σ.box bm = none ∧ s = (σ.setBox br (rd2 v s4)).setBox bm (mc { msg1 v sq with dead := false })) ?_ ?_
  · refine SReg.fl 1 rfl [] 25 [0, 1, 2, 3, 4, 5, 6, 7, 9, 10, 11, 12, 14, 15, 16, 17, 19, 20, 21, 22] [[8], [13], [18], [23, 24]] [26] [0, 0, 0, 3, 0, 0, 0, 3, 4, 0, 0, 0, 3, 4, 0, 0, 0, 3, 4, 0, 0, 0, 3, 4, 0, 4, 2] (by decide +kernel) ?_
    (conv => whnf)
    repeat' (first | ((first | refine SIf.y Ty.mixed (by first | exact rfl | assumption | fail) ?_ | refine SIf.n Ty.mixed (by first | exact rfl | assumption | fail) ?_ | refine SCond.y (by first | exact rfl | assumption | fail) ?_ | refine SCond.n (by first | exact rfl | assumption | fail) ?_ | refine SPick.y (by first | exact rfl | assumption | fail) ?_ | refine SPick.n (by first | exact rfl | assumption | fail) ?_ | refine SPick.b ?_ | refine SPick.i ?_ | refine SLoadH.on 0 rfl rfl ?_ | refine SLoadH.on 1 rfl rfl ?_ | refine SLoadH.on 2 rfl rfl ?_ | refine SLoadH.on 3 rfl rfl ?_ | refine SCall.bH 0 (fun hb => by first | exact rtext1_any w0 v _ 60 br _ hv (by first | exact Nat.zero_le _ | omega) (by decide) hb | exact rtext1_any w0 v _ 30 br _ hv (by omega) (by decide) hb | exact rnum1_any w0 v _ br _ hv (by omega) hb) rfl rfl (by (intro p hp; cases hp; first | assumption | exact Ne.symm (by assumption))) ?_ | refine SCall.bH 1 (fun hb => by first | exact rtext1_any w0 v _ 60 br _ hv (by first | exact Nat.zero_le _ | omega) (by decide) hb | exact rtext1_any w0 v _ 30 br _ hv (by omega) (by decide) hb | exact rnum1_any w0 v _ br _ hv (by omega) hb) rfl rfl (by (intro p hp; cases hp; first | assumption | exact Ne.symm (by assumption))) ?_ | refine SLoad.on 0 rfl ?_ | refine SLoad.on 1 rfl ?_ | refine SLoad.on 2 rfl ?_ | refine SLoad.on 3 rfl ?_ | refine SLoad.on 4 rfl ?_ | refine SLoad.on 5 rfl ?_ | refine SStore.on 0 rfl ?_ | refine SStore.on 1 rfl ?_ | refine SStore.on 2 rfl ?_ | refine SStore.on 3 rfl ?_ | refine SStore.on 4 rfl ?_ | refine SStore.on 5 rfl ?_ | refine SBox.f ?_ | refine SCall.p (by fail) ?_ | fail | refine SApp.c rfl rfl (by first | assumption | exact Moves.more (by assumption) (by assumption) | fail) (by first | (simp only [length_aBytes, List.length_append, List.length_cons, List.length_nil, List.length_map, List.length_range]; omega) | omega | fail) fun tk1 σ1 hm => ?_ | fail | refine And.intro (by first | omega | (simp only [List.length_cons, List.length_append, List.length_nil, List.length_map, length_aBytes, List.length_replicate, List.length_range]; omega) | fail) ?_ | refine ⟨_, ⟨by first | omega | (simp only [List.length_cons, List.length_append, List.length_nil, List.length_map, length_aBytes, List.length_replicate, List.length_range]; omega) | fail, by first | assumption | exact get_map (by assumption) | exact get_bytes (by assumption) | fail⟩, ?_⟩ | refine ⟨_, toBytes_aBytes _, ?_⟩ | refine ⟨_, by repeat (first | exact toB_nil | apply toB_cons | apply toB_consC _ (by first | omega | (simp only [List.length_cons, List.length_append, List.length_nil, List.length_map, length_aBytes, List.length_replicate, List.length_range]; omega) | fail)), ?_⟩ | refine ⟨_, IntWalk.i64_in _ (by first | omega | (simp only [List.length_cons, List.length_append, List.length_nil, List.length_map, length_aBytes, List.length_replicate, List.length_range]; omega) | fail), ?_⟩ | refine ⟨_, wrap_u8 _, ?_⟩ | refine ⟨_, rfl, ?_⟩ | intro bm hbm | fail); conv => whnf) | (refine And.intro ?_ ?_ <;> (conv => whnf)))
    all_goals
      have hb0 : σ.box bm = none := by first | exact hbm | exact (box_none hbm).1 | (simp only [setBox_setBox] at hbm; exact (box_none hbm).1)
      have hbb : bm ≠ br := fun e => by rw [e, hr] at hb0; cases hb0
      have sc : ∀ (s : St) X Y, (s.setBox bm Y).setBox br X = (s.setBox br X).setBox bm Y := fun s X Y => setBox_comm hbb
      refine ⟨bm, by repeat (first | exact trivial | refine ⟨by first | trivial | exact Weak.refl _ | exact Weak.tok _ _ _ | exact Weak.of_eq (congrArg (AV.int _) (by omega)) | exact Weak.of_eq (congrArg AV.bool (by fail)) | exact Weak.nils _ _ (.inr rfl), ?_⟩), ?_, hb0, ?_⟩
      · rw [hs4]; exact .refl _
      · rw [hs4]; simp only [setBox_setBox, sc]; rfl
  · rintro bm s ⟨hbm, rfl⟩ hK
    have hbb : bm ≠ br := fun e => by rw [e, hr] at hbm; cases hbm
    have hbn := le_none hx.le hbm
    have hq : ∀ X C Y D, DAt τ ((((σ.setBox br X).setBox bm C).setBox br Y).setBox bm D) bd x ac qv ra rq sq (.ptr br 0) := fun X C Y D => (((hx.other hrn hne h1 h2 X).other hbn (hx.ne hbm) (hx.ra_ne hbm) (hx.rq_ne hbm) C).other hrn hne h1 h2 Y).other hbn (hx.ne hbm) (hx.ra_ne hbm) (hx.rq_ne hbm) D
    have f5 : s4.1 ≤ 1000000 := by have := n2_far v (n2 v (t2 v (t2 v (0, false) 60).2 30).2).2; rw [← hs4] at this; omega
    have hx' := hq (rd2 v s4) (mc { msg1 v sq with dead := false }) (rd2 v s4) (mc { msg1 v sq with dead := false })
    obtain ⟨_, _, _, _, hxq, _⟩ := hx'
    cases hxq with
    | nil h0 =>
      (conv => whnf); refine SLoad.on 2 rfl ?_; (conv => whnf); refine SCall.b 1 (fun hb => by exact rnum1_any w0 v _ br _ hv f5 hb) rfl rfl ?_; (conv => whnf); refine SStore.on 0 rfl ?_; (conv => whnf); refine SReg.d [0, 1, 2, 3, 4, 5, 6, 7, 8, 9, 10, 11, 12] [0, 0, 0, 0, 0, 1, 1, 0, 2, 0, 0, 0, 2] (by decide +kernel) ?_; (conv => whnf); (conv => whnf); refine SLoad.on 2 rfl ?_; (conv => whnf); refine SLoad.on 0 rfl ?_; (conv => whnf)
      refine SApp.row rfl (hq _ _ _ _).q rfl (msgs_sz _) rfl (by simp only [List.length_map]; omega) (by simp) fun b' cap' σ' q1 q2 q3 q4 => ?_
      (conv => whnf); refine SStore.on 2 rfl ?_; (conv => whnf)
      subst hs4
      exact .w ⟨rfl, _, _, (hq _ _ _ _).appQ (m := msg1 v sq) q1 q2 q3 q4⟩
    | own b cap junk hb hc hl =>
      (conv => whnf); refine SLoad.on 2 rfl ?_; (conv => whnf); refine SCall.b 1 (fun hb => by exact rnum1_any w0 v _ br _ hv f5 hb) rfl rfl ?_; (conv => whnf); refine SStore.on 0 rfl ?_; (conv => whnf); refine SReg.d [0, 1, 2, 3, 4, 5, 6, 7, 8, 9, 10, 11, 12] [0, 0, 0, 0, 0, 1, 1, 0, 2, 0, 0, 0, 2] (by decide +kernel) ?_; (conv => whnf); (conv => whnf); refine SLoad.on 2 rfl ?_; (conv => whnf); refine SLoad.on 0 rfl ?_; (conv => whnf)
      refine SApp.row rfl (hq _ _ _ _).q rfl (msgs_sz _) rfl (by simp only [List.length_map]; omega) (by simp only [List.mem_cons, List.not_mem_nil, or_false, forall_eq_or_imp, forall_eq]; exact ⟨hx.rq_ne hbm, h2, fun e => (hx.qn _ e).2 rfl⟩) fun b' cap' σ' q1 q2 q3 q4 => ?_
      (conv => whnf); refine SStore.on 2 rfl ?_; (conv => whnf)
      subst hs4
      exact .w ⟨rfl, _, _, (hq _ _ _ _).appQ (m := msg1 v sq) q1 q2 q3 q4⟩
end Go.Proofs.YtkbmkhhcppfcnaaGreatDoor
end
section
set_option linter.unusedVariables false
set_option linter.unusedSimpArgs false
set_option maxRecDepth 100000
set_option maxHeartbeats 1000000
namespace Go.Proofs.YtkbmkhhcppfcnaaGreatDoor
open Go.Al Go.RowKit
def mst (v : List UInt8) (seq : Int) : List Msg → Nat × Bool → Nat × Bool
  | [], s => s
  | m :: l, s => if m.seq = seq then mst v seq l (n2 v (n2 v s).2).2 else mst v seq l s
theorem more1_app (v : List UInt8) (seq : Int) : ∀ (l r : List Msg) (s : Nat × Bool), more1 v seq (l ++ r) s = more1 v seq l s ++ more1 v seq r (mst v seq l s)
  | [], r, s => rfl
  | m :: l, r, s => by
    rw [List.cons_append, more1, more1, mst]
    split <;> rw [more1_app v seq l r, List.cons_append]
theorem mst_app (v : List UInt8) (seq : Int) : ∀ (l r : List Msg) (s : Nat × Bool), mst v seq (l ++ r) s = mst v seq r (mst v seq l s)
  | [], r, s => rfl
  | m :: l, r, s => by
    rw [List.cons_append, mst, mst]
    split <;> rw [mst_app v seq l r]
theorem mst_far (v : List UInt8) (seq : Int) : ∀ (l : List Msg) (s : Nat × Bool), (mst v seq l s).1 ≤ max s.1 v.length
  | [], s => Nat.le_max_left ..
  | m :: l, s => by
    rw [mst]
    split
    · have h1 := mst_far v seq l (n2 v (n2 v s).2).2
      have h2 := n2_far v s
      have h3 := n2_far v (n2 v s).2
      omega
    · exact mst_far v seq l s
theorem fm_mid (a b : List Msg) (m : Msg) : fm (a ++ m :: b) = fm a ++ mc m ++ fm b := by
  simp only [fm, List.map_append, List.map_cons, List.flatMap_append, List.flatMap_cons, List.append_assoc]
  rfl
theorem DAt.setQ {τ s : St} {bx b cap n : Nat} {x : Sub} {ac : AV} {ra : Option Nat} {sq : Int} {rp : AV} (h : DAt τ s bx x ac (.msl b 0 n cap) ra (some b) sq rp) {q' : List Msg} {junk : List AV} (hn : q'.length = n) (hc : n ≤ cap) (hl : cap * 8 ≤ (fm q' ++ junk).length) : DAt τ (s.setBox b (fm q' ++ junk)) bx { x with queue := q' } ac (.msl b 0 n cap) ra (some b) sq rp := by
  refine ⟨le_setBox h.le (h.qn _ rfl).1, by rw [setBox_ne (Ne.symm (h.qn _ rfl).2)]; exact h.hbx, h.bxn, h.a.set (fun e => h.aq _ e rfl), ?_, h.an, h.qn, h.aq⟩
  have := RowV.own (σ := s.setBox b (fm q' ++ junk)) (sz := 8) (xs := q'.map eMsg) b cap junk setBox_same (by simpa [hn] using hc) hl
  rw [List.length_map, hn] at this
  exact this
def quB (v : List UInt8) (sq : Int) (q : List Msg) (i : Nat) : List Msg := more1 v sq (q.take i) (0, false) ++ q.drop i
theorem dmore_any (w0 : Base) (v : List UInt8) (x : Sub) (ac qv : AV) (ra rq : Option Nat) (sq : Int) (τ σ : St) (bd br : Nat) (hv : v.length ≤ 1000000) (hn : x.queue.length ≤ 1000000) (hx : DAt τ σ bd x ac qv ra rq sq (.ptr br 0)) (hr : σ.box br = some (rd2 v (0, false))) (hrn : τ.box br = none) (hne : br ≠ bd) (h1 : ra ≠ some br) (h2 : rq ≠ some br) :
    CallW Tryz.prog w0 42 [.ptr bd 0] σ (fun r s => r = .tup [] ∧ DAt τ s bd { x with queue := more1 v sq x.queue (0, false) } ac qv ra rq sq (.ptr br 0)) := by
  refine CallW.x (B := [(br, rd2 v (0, false)), (bd, dc x ac qv sq (.ptr br 0))]) Ty.tok Ty.mixed Tryz.func42 rfl Tryz.ntmps42 rfl (by simp) (by decide +kernel) ⟨by simp [hr, hx.hbx], by simp [hne]⟩ ?_
  have hx' := hx
  obtain ⟨_, _, _, _, hxq, _, hqn, _⟩ := hx'
  cases hxq with
  | nil h0 =>
    have h0' : x.queue = [] := by simpa using h0
    have e0 : more1 v sq x.queue (0, false) = x.queue := by rw [h0']; rfl
    rw [e0]
    (conv => whnf); refine SLoad.on 1 rfl ?_; (conv => whnf)
    refine SLoop.by Ty.mixed (fun (_ : Unit) => 0) (fun _ => [(9, .int .i64 0), (10, .int .i64 0)]) (fun _ => []) (fun _ s => s = σ) () ⟨by repeat (first | exact trivial | refine ⟨by first | trivial | exact Weak.refl _ | exact Weak.tok _ _ _ | exact Weak.of_eq (congrArg (AV.int _) (by omega)) | exact Weak.of_eq (congrArg AV.bool (by fail)) | exact Weak.nils _ _ (.inr rfl), ?_⟩), BSub.none _, rfl⟩ ?_
    rintro _ s rfl; (conv => whnf); refine SIf.n Ty.mixed (by exact rfl) ?_; (conv => whnf); exact .w ⟨rfl, hx⟩
  | own b cap junk hb hcap hl =>
    rw [List.length_map] at hx hcap ⊢
    have hbd := (hqn _ rfl).2
    have hbr : b ≠ br := fun e => h2 (by rw [e])
    (conv => whnf); refine SLoad.on 1 rfl ?_; (conv => whnf); refine SLoop.by2 Ty.mixed (fun i : Nat => x.queue.length - i) (fun i => [(0, .ptr bd 0), (9, .int .i64 x.queue.length), (10, .int .i64 i)]) (fun _ => [])
      (fun i s => i ≤ x.queue.length ∧ DAt τ s bd { x with queue := quB v sq x.queue i } ac (.msl b 0 x.queue.length cap) ra (some b) sq (.ptr br 0) ∧ s.box b = some (fm (quB v sq x.queue i) ++ junk) ∧ s.box br = some (rd2 v (mst v sq (x.queue.take i) (0, false)))) 0 ⟨by repeat (first | exact trivial | refine ⟨by first | trivial | exact Weak.refl _ | exact Weak.tok _ _ _ | exact Weak.of_eq (congrArg (AV.int _) (by omega)) | exact Weak.of_eq (congrArg AV.bool (by fail)) | exact Weak.nils _ _ (.inr rfl), ?_⟩), BSub.none _, Nat.zero_le _, hx, hb, hr⟩ ?_
    rintro i s ⟨hi, hX, hB, hR⟩ hK
    by_cases hlt : i < x.queue.length
    · have hc1 : decide ((i : Int) < (x.queue.length : Nat)) = true := decide_eq_true (by omega)
      have ga : x.queue[i]? = some x.queue[i] := by simp [hlt]
      have ht := take_snoc ga
      have hdr : x.queue.drop i = x.queue[i] :: x.queue.drop (i + 1) := List.drop_eq_getElem_cons hlt
      have hq1 : quB v sq x.queue (i + 1) = more1 v sq (x.queue.take i) (0, false) ++ (if (x.queue[i]).seq = sq then { x.queue[i] with prio := ((n2 v (mst v sq (x.queue.take i) (0, false))).1 : Nat), why := whyN (min (n2 v (n2 v (mst v sq (x.queue.take i) (0, false))).2).1 2) } else x.queue[i]) :: x.queue.drop (i + 1) := by
        rw [quB, ht, more1_app, more1]
        split <;> simp [more1]
      have hs1 : mst v sq (x.queue.take (i + 1)) (0, false) = if (x.queue[i]).seq = sq then (n2 v (n2 v (mst v sq (x.queue.take i) (0, false))).2).2 else mst v sq (x.queue.take i) (0, false) := by
        rw [ht, mst_app, mst]; rfl
      have hq0 : quB v sq x.queue i = more1 v sq (x.queue.take i) (0, false) ++ x.queue[i] :: x.queue.drop (i + 1) := by rw [quB, hdr]
      have hfar := mst_far v sq (x.queue.take i) (0, false)
      have hml := more1_len v sq (x.queue.take i) (0, false)
      rw [List.length_take] at hml
      have hpost : (x.queue.drop (i + 1)).length = x.queue.length - (i + 1) := List.length_drop ..
      generalize x.queue[i] = m at ga hq1 hs1 hq0 hdr
      generalize mst v sq (x.queue.take i) (0, false) = st at hR hq1 hs1 hfar
      generalize more1 v sq (x.queue.take i) (0, false) = pre at hq1 hq0 hml
      generalize hpp : x.queue.drop (i + 1) = post at hq1 hq0 hpost
      have hS : s.box b = some (fm pre ++ mc m ++ (fm post ++ junk)) := by rw [hB, hq0, fm_mid, List.append_assoc]
      have hpl : (fm pre).length = i * 8 := by rw [fm_len]; congr 1; omega
      have ho : ∀ k, 0 + (i : Int).toNat * 8 + k = (fm pre).length + k := fun k => by rw [hpl]; simp
      refine ⟨[(b, fm pre ++ mc m ++ (fm post ++ junk)), (br, rd2 v st), (bd, dc { x with queue := quB v sq x.queue i } ac (.msl b 0 x.queue.length cap) sq (.ptr br 0))], ⟨by simp [hS, hR, hX.hbx], by simp [hbr, hbd, hne]⟩, ?_⟩
      (conv => whnf); refine SIf.y Ty.mixed (by assumption) ?_; (conv => whnf); refine SLoad.on 2 rfl ?_; (conv => whnf); refine And.intro (by omega) ?_; (conv => whnf); refine SReg.d [0, 1, 2, 4, 5, 6, 3, 7, 8] [0, 0, 0, 1, 0, 0, 0, 1, 0] (by decide +kernel) ?_; (conv => whnf); (conv => whnf); refine SLoad.mid 0 _ rfl (ho _) rfl ?_; (conv => whnf); refine SLoad.on 2 rfl ?_; (conv => whnf)
      have hw : ∀ n : Nat, ([AV.str [], .str [110, 97, 99, 107], .str [116, 105, 109, 101]] : List AV)[(min (n : Int) 2).toNat]? = some (.str (whyN (min n 2))) := by
        intro n
        by_cases h0 : n = 0
        · subst h0; rfl
        · by_cases h1 : n = 1
          · subst h1; rfl
          · have : (min (n : Int) 2).toNat = 2 := by omega
            have h2 : min n 2 = 2 := by omega
            rw [this, h2]; rfl
      have sc : ∀ (s : St) X Y, (s.setBox b Y).setBox br X = (s.setBox br X).setBox b Y := fun s X Y => setBox_comm hbr
      have f1 := n2_far v st
      (refine SIf.x Ty.mixed (fun hc => ?_) (fun hc => ?_) <;> (conv => whnf))
      · have hm : m.seq = sq := by simpa using hc
        rw [if_pos hm] at hq1 hs1
        refine SLoad.on 2 rfl ?_; (conv => whnf); refine SCall.b 1 (fun hb => by exact rnum1_any w0 v _ br _ hv (by omega) hb) rfl rfl ?_; (conv => whnf); refine SStore.mid 0 _ rfl (ho _) (Nat.le_of_ble_eq_true rfl) ?_; (conv => whnf); refine SReg.d [0, 1, 2, 3, 4, 5, 6, 7, 8, 9, 10, 11, 12] [0, 0, 0, 0, 0, 1, 2, 0, 0, 1, 0, 0, 2] (by decide +kernel) ?_; (conv => whnf); (conv => whnf); refine SCall.p (by exact deaths1_any w0) ?_
        (conv => whnf); refine SLoad.on 2 rfl ?_; (conv => whnf); refine SCall.b 1 (fun hb => by exact rnum1_any w0 v _ br _ hv (by omega) hb) rfl rfl ?_; (conv => whnf)
        refine ⟨_, ⟨by first | omega | (simp only [List.length_cons, List.length_append, List.length_nil, List.length_map, length_aBytes, List.length_replicate, List.length_range]; omega) | fail, by exact hw _⟩, ?_⟩
        (conv => whnf); refine SStore.mid 0 _ rfl (ho _) (Nat.le_of_ble_eq_true rfl) ?_; (conv => whnf); refine ⟨_, IntWalk.i64_in _ (by omega), ?_⟩; (conv => whnf)
        simp only [setBox_setBox, sc]
        have hY : fm (quB v sq x.queue (i + 1)) ++ junk = fm pre ++ mc { m with prio := ((n2 v st).1 : Nat), why := whyN (min (n2 v (n2 v st).2).1 2) } ++ (fm post ++ junk) := by rw [hq1, fm_mid, List.append_assoc]
        have hD := (hX.other hrn hne h1 h2 (rd2 v (n2 v (n2 v st).2).2)).setQ (q' := quB v sq x.queue (i + 1)) (junk := junk) (by rw [hq1]; simp [hml, hpost]; omega) hcap (by
          rw [List.length_append, flat_len (msgs_sz _), List.length_map] at hl
          rw [List.length_append, fm_len, hq1]; simp [hml, hpost]; omega)
        have hB1 : ((s.setBox br (rd2 v (n2 v (n2 v st).2).2)).setBox b (fm (quB v sq x.queue (i + 1)) ++ junk)).box b = some (fm (quB v sq x.queue (i + 1)) ++ junk) := setBox_same
        have hR1 : ((s.setBox br (rd2 v (n2 v (n2 v st).2).2)).setBox b (fm (quB v sq x.queue (i + 1)) ++ junk)).box br = some (rd2 v (mst v sq (x.queue.take (i + 1)) (0, false))) := by rw [setBox_ne (Ne.symm hbr), hs1]; exact setBox_same
        rw [hY] at hD hR1
        refine ⟨i + 1, by omega, by repeat (first | exact trivial | refine ⟨by first | trivial | exact Weak.refl _ | exact Weak.tok _ _ _ | exact Weak.of_eq (congrArg (AV.int _) (by omega)) | exact Weak.of_eq (congrArg AV.bool (by fail)) | exact Weak.nils _ _ (.inr rfl), ?_⟩), BSub.none _, hlt, hD, ?_, hR1⟩
        rw [hY]
        exact setBox_same
      · have hm : ¬ m.seq = sq := by simpa using hc
        rw [if_neg hm] at hq1 hs1
        refine ⟨_, IntWalk.i64_in _ (by omega), ?_⟩; (conv => whnf)
        have e1 : quB v sq x.queue (i + 1) = quB v sq x.queue i := by rw [hq1, hq0]
        exact ⟨i + 1, by omega, by repeat (first | exact trivial | refine ⟨by first | trivial | exact Weak.refl _ | exact Weak.tok _ _ _ | exact Weak.of_eq (congrArg (AV.int _) (by omega)) | exact Weak.of_eq (congrArg AV.bool (by fail)) | exact Weak.nils _ _ (.inr rfl), ?_⟩), BSub.none _, hlt, by rw [e1]; exact hX, by rw [e1]; exact hB, by rw [hs1]; exact hR⟩
    · have hge : i = x.queue.length := by omega
      have hc1 : decide ((i : Int) < (x.queue.length : Nat)) = false := decide_eq_false (by omega)
      subst hge
      have e1 : quB v sq x.queue x.queue.length = more1 v sq x.queue (0, false) := by rw [quB, List.take_length, List.drop_length, List.append_nil]
      rw [e1] at hX
      refine ⟨[], .nil _, ?_⟩; (conv => whnf); refine SIf.n Ty.mixed (by assumption) ?_; (conv => whnf); exact .w ⟨rfl, hX⟩
end Go.Proofs.YtkbmkhhcppfcnaaGreatDoor
end
section
set_option linter.unusedVariables false
set_option linter.unusedSimpArgs false
set_option maxRecDepth 100000
set_option maxHeartbeats 1000000
namespace Go.Proofs.YtkbmkhhcppfcnaaGreatDoor
open Go.Al Go.RowKit
def done2 (t : UInt8) (j : Nat) : Bool := (([97, 98, 110, 113, 115, 120] : List UInt8).take j).contains t
def xj (x : Sub) (r : Row) (j : Nat) : Sub := if done2 (parts r.key).t j = true then add2 x r else { x with id := (parts r.key).id }
theorem xj_six (x : Sub) (r : Row) : xj x r 6 = add2 x r := by
  unfold xj
  split
  · rfl
  · rename_i h
    have h' : ¬ ((parts r.key).t = 97 ∨ (parts r.key).t = 98 ∨ (parts r.key).t = 110 ∨ (parts r.key).t = 113 ∨ (parts r.key).t = 115 ∨ (parts r.key).t = 120) := by
      simpa [done2] using h
    simp only [not_or] at h'
    obtain ⟨h1, h2, h3, h4, h5, h6⟩ := h'
    rw [add2]
    simp only [h1, h2, h3, h4, h5, h6, if_false]
theorem PlaceAt.keep {τ s : St} {bx : Nat} {x : Sub} {ra rq : Option Nat} {seq : Int} {bm o : Nat} (h : PlaceAt τ s bx x ra rq seq bm o) {br : Nat} (hb : s.box br = none) (ds : List AV) : PlaceAt τ (s.setBox br ds) bx x ra rq seq bm o := by
  cases h with
  | found i m b o hr hi hm hj ho => exact .found i m _ o hr hi hm hj ho
  | lone bm hj hbm hn h1 h2 h3 => exact .lone _ hj (by rw [setBox_ne (fun e => by rw [e, hb] at hbm; cases hbm)]; exact hbm) hn h1 h2 h3
theorem PlaceAt.ne {τ s : St} {bx : Nat} {x : Sub} {ac qv : AV} {ra rq : Option Nat} {seq : Int} {bm o : Nat} (h : PlaceAt τ s bx x ra rq seq bm o) (hx : XAt τ s bx x ac qv ra rq) {br : Nat} (hb : s.box br = none) : br ≠ bm := by
  cases h with
  | found i m b o hr hi hm hj ho => exact fun e => hx.rq_ne hb (by rw [hr, e])
  | lone bm hj hbm hn h1 h2 h3 => exact fun e => by rw [← e, hb] at hbm; cases hbm
theorem PlaceAt.less {τ τ' s : St} {bx : Nat} {x : Sub} {ra rq : Option Nat} {seq : Int} {bm o : Nat} (h : PlaceAt τ s bx x ra rq seq bm o) (hl : St.Le τ' τ) : PlaceAt τ' s bx x ra rq seq bm o := by
  cases h with
  | found i m b o hr hi hm hj ho => exact .found i m _ o hr hi hm hj ho
  | lone bm hj hbm hn h1 h2 h3 => exact .lone _ hj hbm (le_none hl hn) h1 h2 h3
theorem PlaceAt.ne' {τ s : St} {bx : Nat} {x : Sub} {ac qv : AV} {ra rq : Option Nat} {seq : Int} {bm o : Nat} (h : PlaceAt τ s bx x ra rq seq bm o) (hx : XAt τ s bx x ac qv ra rq) {br : Nat} {cs : List AV} (hb : τ.box br = some cs) : br ≠ bm := by
  cases h with
  | found i m b o hr hi hm hj ho => exact fun e => by have := (hx.qn _ hr).1; rw [← e, hb] at this; cases this
  | lone bm hj hbm hn h1 h2 h3 => exact fun e => by rw [← e, hb] at hn; cases hn
theorem XAt.ne {τ s : St} {bx : Nat} {x : Sub} {ac qv : AV} {ra rq : Option Nat} (hx : XAt τ s bx x ac qv ra rq) {br : Nat} (hb : s.box br = none) : br ≠ bx := fun e => by rw [e, hx.hbx] at hb; cases hb
theorem ints_flat (l : List Int) : (l.map (AV.int .i64)).flatMap AV.cells = l.map (AV.int .i64) := by
  induction l with
  | nil => rfl
  | cons a l ih => rw [List.map_cons, List.flatMap_cons, ih]; rfl
theorem XAt.setA {τ s : St} {bx b cap n : Nat} {x : Sub} {qv : AV} {rq : Option Nat} (h : XAt τ s bx x (.msl b 0 n cap) qv (some b) rq) {l' : List Int} {junk : List AV} (hn : l'.length = n) (hc : n ≤ cap) (hl : cap * 1 ≤ (l'.map (AV.int .i64) ++ junk).length) : XAt τ (s.setBox b (l'.map (AV.int .i64) ++ junk)) bx { x with acks := l' } (.msl b 0 n cap) qv (some b) rq := by
  refine ⟨le_setBox h.le (h.an _ rfl).1, by rw [setBox_ne (Ne.symm (h.an _ rfl).2)]; exact h.hbx, h.bxn, ?_, h.q.set (h.aq _ rfl), h.an, h.qn, h.aq⟩
  have := RowV.own (σ := s.setBox b (l'.map (AV.int .i64) ++ junk)) (sz := 1) (xs := l'.map (AV.int .i64)) b cap junk (by rw [setBox_same, ints_flat]) (by simpa [hn] using hc) (by rw [ints_flat]; exact hl)
  rw [List.length_map, hn] at this
  exact this
theorem enc2_short {x : Sub} (h : Fits x) : (enc2 x).length ≤ 1000000000 := by
  have h1 := ack2_len x
  have h2 := note2_len x
  have h3 := rowsOf_len x 120 xN x.queue
  rw [rowsOf_x] at h3
  have h4 := h.nqueue
  simp only [enc2, List.length_append, List.length_map, List.length_singleton]
  omega
theorem weak_sub0 : Weak (.tup [eSub sub0, .int .u16 ((11 : Nat) : Int)]) (.tup [.agg [.int .i64 0, .str [], .str [], .str [], .int .i64 0, .int .i64 0, .int .i64 0, .nils, .nils, .str []], .int .u16 11]) :=
  .tup (.cons (.agg (.cons (.refl _) (.cons (.refl _) (.cons (.refl _) (.cons (.refl _) (.cons (.refl _) (.cons (.refl _) (.cons (.refl _) (.cons (.nils 1 .no (.inl rfl)) (.cons (.nils 8 .no (.inl rfl)) (.cons (.refl _) .nil)))))))))) (by intro c hc; simp [eSub] at hc; rcases hc with rfl | rfl | rfl | rfl | rfl | rfl | rfl | rfl | rfl | rfl <;> rfl)) (.cons (.refl _) .nil))
theorem know_le {τ s : St} {B : BL} (h : Know τ B) (hl : St.Le τ s) : Know s B := ⟨fun p hp => hl.box _ _ (h.has p hp), h.nd⟩
set_option maxHeartbeats 4000000 in
theorem dec2_p (w0 : Base) (hL : Laid w0) (l : List Row) (tk : Tok) (hl : tot l ≤ 100000) (hk : ∀ r ∈ l, r.key.length ≤ 1000000) : CallP Tryz.prog w0 14 [.slc 2 (l.map eRow) tk] (.tup [eSub (dec2 l).1, .int .u16 ((dec2 l).2 : Nat)]) := by
  refine CallP.x Ty.tok Ty.mixed Tryz.func14 rfl Tryz.ntmps14 rfl (by simp) (by decide +kernel) fun σ => ?_
  have hlen := tot_len l
  have hfits := fin2_fits l hl
  (conv => whnf); intro b2 hb2; (conv => whnf); intro bx hbx; (conv => whnf)
  skip
  have hK2 : Know (σ.setBox b2 (xc sub0 .nils .nils)) [(b2, xc sub0 .nils .nils)] := (Know.nil σ).new hb2
  have hσ : St.Le σ (σ.setBox b2 (xc sub0 .nils .nils)) := le_new (.refl _) hb2
  have hx0 : XAt (σ.setBox b2 (xc sub0 .nils .nils)) ((σ.setBox b2 (xc sub0 .nils .nils)).setBox bx (xc sub0 .nils .nils)) bx sub0 .nils .nils none none :=
    ⟨le_new (.refl _) hbx, setBox_same, hbx, .nil rfl, .nil rfl, (fun b e => by cases e), (fun b e => by cases e), (fun b e => by cases e)⟩
  have hb2' : ∀ s : St, St.Le (σ.setBox b2 (xc sub0 .nils .nils)) s → St.Le σ s := fun s h => hσ.trans h
  generalize hτ : σ.setBox b2 (xc sub0 .nils .nils) = τ at hK2 hσ hx0 hb2'
  refine SLoop.by2 Ty.mixed (fun (a : Nat × AV × Option Nat × AV × Option Nat) => l.length - a.1) (fun (i, ac, ra, qv, rq) => [(0, .slc 2 (l.map eRow) .no), (2, .ptr b2 0), (4, .ptr bx 0), (16, .slc 2 (l.map eRow) .no), (17, .int .i64 l.length), (18, .int .i64 i)]) (fun (i, ac, ra, qv, rq) => [(bx, xc (rows2 (l.take i)) ac qv), (b2, xc sub0 .nils .nils)])
    (fun (i, ac, ra, qv, rq) s => i ≤ l.length ∧ XAt τ s bx (rows2 (l.take i)) ac qv ra rq) (0, .nils, none, .nils, none) ⟨?_, .refl _, Nat.zero_le _, by subst hτ; exact hx0⟩ ?_
  · show xWeak [(0, .slc 2 (l.map eRow) .no), (2, .ptr b2 0), (4, .ptr bx 0), (16, .slc 2 (l.map eRow) .no), (17, .int .i64 l.length), (18, .int .i64 (0 : Nat))] _
    rw [List.length_map]
    repeat (first | exact trivial | refine ⟨by first | trivial | exact Weak.refl _ | exact Weak.tok _ _ _ | exact Weak.of_eq (congrArg (AV.int _) (by omega)) | exact Weak.of_eq (congrArg AV.bool (by fail)) | exact Weak.nils _ _ (.inr rfl), ?_⟩)
  rintro ⟨i, ac, ra, qv, rq⟩ s ⟨hi, hx⟩ hK
  by_cases hlt : i < l.length
  · have hc : decide ((i : Int) < (l.length : Nat)) = true := decide_eq_true (by omega)
    have ga : l[i]? = some l[i] := by simp [hlt]
    have hkl := hk _ (List.getElem_mem hlt)
    have hvl := tot_mem (List.getElem_mem hlt)
    have hsn := rows2_snoc ga
    have hft := rows2_fit l i (by omega)
    have htl := tot_le l i
    have hac := hft.acks
    have hqu := hft.queue
    generalize l[i] = r at ga hkl hvl hsn
    have hK : Know s [(bx, xc (rows2 (l.take i)) ac qv), (b2, xc sub0 .nils .nils)] := hK
    generalize rows2 (l.take i) = x at hx hsn hft hac hqu hK
    have hpa := partsS_any w0 hL r.key hkl
    have hxs := xj_six x r
    refine ⟨_, hK, ?_⟩; (conv => whnf); refine SIf.y Ty.mixed (by assumption) ?_; (conv => whnf)
    refine ⟨_, ⟨by first | omega | (simp only [List.length_cons, List.length_append, List.length_nil, List.length_map, length_aBytes, List.length_replicate, List.length_range]; omega) | fail, by exact get_map ga⟩, ?_⟩
    (conv => whnf); intro b6 hb6; (conv => whnf); refine SStore.on 0 rfl ?_; (conv => whnf); refine SLoad.on 0 rfl ?_; (conv => whnf); refine SCall.p (by exact hpa) ?_; (conv => whnf); refine SStore.on 1 rfl ?_; (conv => whnf); refine SCall.p (by exact tables2_any w0) ?_; (conv => whnf)
    have hx6 : XAt τ (s.setBox bx (xc { x with id := (parts r.key).id } ac qv)) bx { x with id := (parts r.key).id } ac qv ra rq := hx.own _ rfl rfl
    have hb6x : b6 ≠ bx := hx.ne hb6
    have hxz : xj x r 0 = { x with id := (parts r.key).id } := by rw [xj, if_neg (by simp [done2])]
    refine SLoop.fz 6 0 (s.setBox bx (xc { x with id := (parts r.key).id } ac qv)) [(bx, xc { x with id := (parts r.key).id } ac qv), (b2, xc sub0 .nils .nils)] rfl (by rw [setBox_setBox, setBox_comm hb6x]; exact le_setBox (.refl _) (by rw [setBox_ne hb6x]; exact hb6)) (by rw [setBox_ne hb6x]; exact hb6) (hx6.know hK2) rfl rfl ?_
    refine SLoop.by2 Ty.mixed (fun (a : Nat × AV × Option Nat × AV × Option Nat) => 6 - a.1) (fun (j, ac, ra, qv, rq) => [(0, .slc 2 (l.map eRow) .no), (2, .ptr b2 0), (4, .ptr bx 0), (16, .slc 2 (l.map eRow) .no), (17, .int .i64 l.length), (18, .int .i64 i), (6, .vp (eRow r)), (8, .int .u8 (parts r.key).t.toNat), (10, .int .i64 (parts r.key).seq), (33, .agg tabs2), (34, .int .i64 j)]) (fun (j, ac, ra, qv, rq) => [(bx, xc (xj x r j) ac qv), (b2, xc sub0 .nils .nils)])
      (fun (j, ac, ra, qv, rq) s => j ≤ 6 ∧ XAt τ s bx (xj x r j) ac qv ra rq) (0, ac, ra, qv, rq) ⟨by repeat (first | exact trivial | refine ⟨by first | trivial | exact Weak.refl _ | exact Weak.tok _ _ _ | exact Weak.of_eq (congrArg (AV.int _) (by omega)) | exact Weak.of_eq (congrArg AV.bool (by fail)) | exact Weak.nils _ _ (.inr rfl), ?_⟩), ?_, Nat.zero_le _, by show XAt τ _ bx (xj x r 0) ac qv ra rq; rw [hxz]; exact hx6⟩ ?_
    · show BSub [(bx, xc (xj x r 0) ac qv), _] _
      rw [hxz]
      exact .refl _
    clear hx6 hx hK; rintro ⟨j, ac, ra, qv, rq⟩ s ⟨hj, hx⟩ hK
    have hT : ∀ (t : UInt8), (parts r.key).t ≠ t → decide ((t.toNat : Int) = ((parts r.key).t.toNat : Nat)) = false := fun t h => decide_eq_false fun e => h (UInt8.toNat_inj.1 (by omega))
    match j, hj with
    | 0, _ =>
      by_cases ht : (parts r.key).t = 97
      · have hy : xj x r 0 = { x with id := (parts r.key).id } := by rw [xj, ht]; rfl
        have hy2 : xj x r 1 = tell 97 (parts r.key).seq r.val { x with id := (parts r.key).id } := by rw [xj, if_pos (by rw [ht]; rfl), add2_tell, ht]
        have hK : Know s [(bx, xc (xj x r 0) ac qv), (b2, xc sub0 .nils .nils)] := hK
        rw [hy] at hx hK
        generalize hyy : ({ x with id := (parts r.key).id } : Sub) = y at hx hK hy hy2
        have hya : y.acks = x.acks := by rw [← hyy]
        have hyq : y.queue = x.queue := by rw [← hyy]
        have hpt : ((parts r.key).t.toNat : Int) = 97 := by rw [ht]; rfl
        show ∃ B, Know s B ∧ xOpen [(0, .slc 2 (l.map eRow) .no), (2, .ptr b2 0), (4, .ptr bx 0), (16, .slc 2 (l.map eRow) .no), (17, .int .i64 l.length), (18, .int .i64 i), (6, .vp (eRow r)), (8, .int .u8 (parts r.key).t.toNat), (10, .int .i64 (parts r.key).seq), (33, .agg tabs2), (34, .int .i64 ((0 : Nat) : Int))] B _
        rw [hpt]
        refine ⟨_, hK, ?_⟩; (conv => whnf); refine SIf.y Ty.mixed (by exact rfl) ?_; (conv => whnf); refine And.intro (by omega) ?_; (conv => whnf); refine ⟨_, rfl, ?_⟩; (conv => whnf); intro b13 hb13; (conv => whnf); refine SStore.on 0 rfl ?_; (conv => whnf); refine SLoad.on 0 rfl ?_; (conv => whnf); refine SIf.y Ty.mixed (by exact rfl) ?_; (conv => whnf); refine SReg.fz 13 hb13 rfl rfl ?_
        refine SReg.two [0, 1, 2, 3, 5, 6, 7] 4 8 [9] [0, 0, 0, 0, 2, 0, 0, 0, 2, 2] (by decide +kernel) ?_; (conv => whnf)
        skip
        refine And.intro ?_ ?_
        · (conv => whnf)
          refine SCall.wK (fun hB => place_any w0 y ac qv ra rq _ bx 97 (parts r.key).seq _ (by rw [hyq]; omega) hx) rfl ?_; rintro rr s1 ⟨bm, o, qv', rq', rfl, hx1, hp⟩ hB; refine ⟨_, hx1.know hK2, ?_⟩; (conv => whnf); refine SBox.b rfl ?_; (conv => whnf); intro br hbr; (conv => whnf)
          refine SCall.wK (fun hB => rT_a w0 _ _ bx br bm o y ac qv' ra rq' (parts r.key).seq r.val (by omega) (by rw [hya]; omega) (hx1.other (le_none hx1.le hbr) (hx1.ne hbr) (hx1.ra_ne hbr) (hx1.rq_ne hbr) _) (hp.keep hbr _) setBox_same (le_none hx1.le hbr) (hx1.ne hbr) (hx1.ra_ne hbr) (hx1.rq_ne hbr) (hp.ne hx1 hbr)) rfl ?_; rintro rr s2 ⟨rfl, ac', ra', hx2⟩ hB; refine ⟨_, hx2.know hK2, ?_⟩
          (conv => whnf); refine ⟨_, IntWalk.i64_in _ (by omega), ?_⟩; (conv => whnf)
          refine ⟨(1, ac', ra', qv', rq'), by show 6 - (0 + 1) < 6 - 0; decide, by repeat (first | exact trivial | refine ⟨by first | trivial | exact Weak.refl _ | exact Weak.tok _ _ _ | exact Weak.of_eq (congrArg (AV.int _) (by omega)) | exact Weak.of_eq (congrArg AV.bool (by fail)) | exact Weak.nils _ _ (.inr rfl), ?_⟩), ?_, by decide, ?_⟩
          · show BSub [(bx, xc (xj x r 1) ac' qv'), _] _
            rw [hy2]
            exact .refl _
          · show XAt τ _ bx (xj x r 1) ac' qv' ra' rq'
            rw [hy2]
            exact hx2
        · (conv => whnf)
          refine SBox.b rfl ?_; (conv => whnf); intro br hbr; (conv => whnf)
          have hxg := hx.grow hbr (rd2 r.val (0, false))
          have hKr := hK2.new (cs := rd2 r.val (0, false)) (le_none hx.le hbr)
          refine SCall.wK (fun hB => place_any w0 y ac qv ra rq _ bx 97 (parts r.key).seq _ (by rw [hyq]; omega) hxg) rfl ?_; rintro rr s1 ⟨bm, o, qv', rq', rfl, hx1, hp⟩ hB; refine ⟨_, hx1.know hKr, ?_⟩
          have hττ : St.Le τ (τ.setBox br (rd2 r.val (0, false))) := le_new (.refl _) (le_none hx.le hbr)
          have hqn : rq' ≠ some br := fun e => by have := (hx1.qn _ e).1; rw [setBox_same] at this; cases this
          (conv => whnf)
          skip
          refine SCall.wK (fun hB => rT_a w0 _ _ bx br bm o y ac qv' ra rq' (parts r.key).seq r.val (by omega) (by rw [hya]; omega) (hx1.less hττ) (hp.less hττ) (hx1.le.box _ _ setBox_same) (le_none hx.le hbr) (hx.ne hbr) (hx.ra_ne hbr) hqn (hp.ne' hx1 setBox_same)) rfl ?_; rintro rr s2 ⟨rfl, ac', ra', hx2⟩ hB; refine ⟨_, hx2.know hK2, ?_⟩; (conv => whnf)
          refine ⟨_, IntWalk.i64_in _ (by omega), ?_⟩; (conv => whnf)
          refine ⟨(1, ac', ra', qv', rq'), by show 6 - (0 + 1) < 6 - 0; decide, by repeat (first | exact trivial | refine ⟨by first | trivial | exact Weak.refl _ | exact Weak.tok _ _ _ | exact Weak.of_eq (congrArg (AV.int _) (by omega)) | exact Weak.of_eq (congrArg AV.bool (by fail)) | exact Weak.nils _ _ (.inr rfl), ?_⟩), ?_, by decide, ?_⟩
          · show BSub [(bx, xc (xj x r 1) ac' qv'), _] _
            rw [hy2]
            exact .refl _
          · show XAt τ _ bx (xj x r 1) ac' qv' ra' rq'
            rw [hy2]
            exact hx2
      · have hd := hT 97 ht
        have hy : xj x r 1 = xj x r 0 := by unfold xj; congr 1; simp [done2, ht]
        refine ⟨_, hK, ?_⟩; (conv => whnf); refine SIf.y Ty.mixed (by exact rfl) ?_; (conv => whnf); refine And.intro (by omega) ?_; (conv => whnf); refine ⟨_, rfl, ?_⟩; (conv => whnf); intro b13 hb13; (conv => whnf); refine SStore.on 0 rfl ?_; (conv => whnf); refine SLoad.on 0 rfl ?_; (conv => whnf); refine SIf.n Ty.mixed (by assumption) ?_; (conv => whnf)
        refine ⟨_, IntWalk.i64_in _ (by omega), ?_⟩; (conv => whnf)
        refine ⟨(1, ac, ra, qv, rq), by show 6 - (0 + 1) < 6 - 0; decide, by repeat (first | exact trivial | refine ⟨by first | trivial | exact Weak.refl _ | exact Weak.tok _ _ _ | exact Weak.of_eq (congrArg (AV.int _) (by omega)) | exact Weak.of_eq (congrArg AV.bool (by fail)) | exact Weak.nils _ _ (.inr rfl), ?_⟩), ?_, by decide, ?_⟩
        · show BSub [(bx, xc (xj x r 1) ac qv), _] _
          rw [hy]
          exact .drop (.refl _)
        · show XAt τ _ bx (xj x r 1) ac qv ra rq
          rw [hy, setBox_setBox]
          exact (hx.grow hb13 _).less (le_new (.refl _) (le_none hx.le hb13))
    | 1, _ =>
      by_cases ht : (parts r.key).t = 98
      · have hy : xj x r 1 = { x with id := (parts r.key).id } := by rw [xj, ht]; rfl
        have hy2 : xj x r 2 = tell 98 (parts r.key).seq r.val { x with id := (parts r.key).id } := by rw [xj, if_pos (by rw [ht]; rfl), add2_tell, ht]
        have hK : Know s [(bx, xc (xj x r 1) ac qv), (b2, xc sub0 .nils .nils)] := hK
        rw [hy] at hx hK
        generalize hyy : ({ x with id := (parts r.key).id } : Sub) = y at hx hK hy hy2
        have hya : y.acks = x.acks := by rw [← hyy]
        have hyq : y.queue = x.queue := by rw [← hyy]
        have hpt : ((parts r.key).t.toNat : Int) = 98 := by rw [ht]; rfl
        show ∃ B, Know s B ∧ xOpen [(0, .slc 2 (l.map eRow) .no), (2, .ptr b2 0), (4, .ptr bx 0), (16, .slc 2 (l.map eRow) .no), (17, .int .i64 l.length), (18, .int .i64 i), (6, .vp (eRow r)), (8, .int .u8 (parts r.key).t.toNat), (10, .int .i64 (parts r.key).seq), (33, .agg tabs2), (34, .int .i64 ((1 : Nat) : Int))] B _
        rw [hpt]
        refine ⟨_, hK, ?_⟩; (conv => whnf); refine SIf.y Ty.mixed (by exact rfl) ?_; (conv => whnf); refine And.intro (by omega) ?_; (conv => whnf); refine ⟨_, rfl, ?_⟩; (conv => whnf); intro b13 hb13; (conv => whnf); refine SStore.on 0 rfl ?_; (conv => whnf); refine SLoad.on 0 rfl ?_; (conv => whnf); refine SIf.y Ty.mixed (by exact rfl) ?_; (conv => whnf); refine SReg.fz 13 hb13 rfl rfl ?_
        refine SReg.two [0, 1, 2, 3, 5, 6, 7] 4 8 [9] [0, 0, 0, 0, 2, 0, 0, 0, 2, 2] (by decide +kernel) ?_; (conv => whnf)
        skip
        refine And.intro ?_ ?_
        · (conv => whnf)
          refine SCall.wK (fun hB => place_any w0 y ac qv ra rq _ bx 98 (parts r.key).seq _ (by rw [hyq]; omega) hx) rfl ?_; rintro rr s1 ⟨bm, o, qv', rq', rfl, hx1, hp⟩ hB; refine ⟨_, hx1.know hK2, ?_⟩; (conv => whnf); refine SBox.b rfl ?_; (conv => whnf); intro br hbr; (conv => whnf)
          refine SCall.wK (fun hB => rT_b w0 _ _ bx br bm o y ac qv' ra rq' (parts r.key).seq r.val (by omega) (by rw [hya]; omega) (hx1.other (le_none hx1.le hbr) (hx1.ne hbr) (hx1.ra_ne hbr) (hx1.rq_ne hbr) _) (hp.keep hbr _) setBox_same (le_none hx1.le hbr) (hx1.ne hbr) (hx1.ra_ne hbr) (hx1.rq_ne hbr) (hp.ne hx1 hbr)) rfl ?_; rintro rr s2 ⟨rfl, ac', ra', hx2⟩ hB; refine ⟨_, hx2.know hK2, ?_⟩
          (conv => whnf); refine ⟨_, IntWalk.i64_in _ (by omega), ?_⟩; (conv => whnf)
          refine ⟨(2, ac', ra', qv', rq'), by show 6 - (1 + 1) < 6 - 1; decide, by repeat (first | exact trivial | refine ⟨by first | trivial | exact Weak.refl _ | exact Weak.tok _ _ _ | exact Weak.of_eq (congrArg (AV.int _) (by omega)) | exact Weak.of_eq (congrArg AV.bool (by fail)) | exact Weak.nils _ _ (.inr rfl), ?_⟩), ?_, by decide, ?_⟩
          · show BSub [(bx, xc (xj x r 2) ac' qv'), _] _
            rw [hy2]
            exact .refl _
          · show XAt τ _ bx (xj x r 2) ac' qv' ra' rq'
            rw [hy2]
            exact hx2
        · (conv => whnf)
          refine SBox.b rfl ?_; (conv => whnf); intro br hbr; (conv => whnf)
          have hxg := hx.grow hbr (rd2 r.val (0, false))
          have hKr := hK2.new (cs := rd2 r.val (0, false)) (le_none hx.le hbr)
          refine SCall.wK (fun hB => place_any w0 y ac qv ra rq _ bx 98 (parts r.key).seq _ (by rw [hyq]; omega) hxg) rfl ?_; rintro rr s1 ⟨bm, o, qv', rq', rfl, hx1, hp⟩ hB; refine ⟨_, hx1.know hKr, ?_⟩
          have hττ : St.Le τ (τ.setBox br (rd2 r.val (0, false))) := le_new (.refl _) (le_none hx.le hbr)
          have hqn : rq' ≠ some br := fun e => by have := (hx1.qn _ e).1; rw [setBox_same] at this; cases this
          (conv => whnf)
          skip
          refine SCall.wK (fun hB => rT_b w0 _ _ bx br bm o y ac qv' ra rq' (parts r.key).seq r.val (by omega) (by rw [hya]; omega) (hx1.less hττ) (hp.less hττ) (hx1.le.box _ _ setBox_same) (le_none hx.le hbr) (hx.ne hbr) (hx.ra_ne hbr) hqn (hp.ne' hx1 setBox_same)) rfl ?_; rintro rr s2 ⟨rfl, ac', ra', hx2⟩ hB; refine ⟨_, hx2.know hK2, ?_⟩; (conv => whnf)
          refine ⟨_, IntWalk.i64_in _ (by omega), ?_⟩; (conv => whnf)
          refine ⟨(2, ac', ra', qv', rq'), by show 6 - (1 + 1) < 6 - 1; decide, by repeat (first | exact trivial | refine ⟨by first | trivial | exact Weak.refl _ | exact Weak.tok _ _ _ | exact Weak.of_eq (congrArg (AV.int _) (by omega)) | exact Weak.of_eq (congrArg AV.bool (by fail)) | exact Weak.nils _ _ (.inr rfl), ?_⟩), ?_, by decide, ?_⟩
          · show BSub [(bx, xc (xj x r 2) ac' qv'), _] _
            rw [hy2]
            exact .refl _
          · show XAt τ _ bx (xj x r 2) ac' qv' ra' rq'
            rw [hy2]
            exact hx2
      · have hd := hT 98 ht
        have hy : xj x r 2 = xj x r 1 := by unfold xj; congr 1; simp [done2, ht]
        refine ⟨_, hK, ?_⟩; (conv => whnf); refine SIf.y Ty.mixed (by exact rfl) ?_; (conv => whnf); refine And.intro (by omega) ?_; (conv => whnf); refine ⟨_, rfl, ?_⟩; (conv => whnf); intro b13 hb13; (conv => whnf); refine SStore.on 0 rfl ?_; (conv => whnf); refine SLoad.on 0 rfl ?_; (conv => whnf); refine SIf.n Ty.mixed (by assumption) ?_; (conv => whnf)
        refine ⟨_, IntWalk.i64_in _ (by omega), ?_⟩; (conv => whnf)
        refine ⟨(2, ac, ra, qv, rq), by show 6 - (1 + 1) < 6 - 1; decide, by repeat (first | exact trivial | refine ⟨by first | trivial | exact Weak.refl _ | exact Weak.tok _ _ _ | exact Weak.of_eq (congrArg (AV.int _) (by omega)) | exact Weak.of_eq (congrArg AV.bool (by fail)) | exact Weak.nils _ _ (.inr rfl), ?_⟩), ?_, by decide, ?_⟩
        · show BSub [(bx, xc (xj x r 2) ac qv), _] _
          rw [hy]
          exact .drop (.refl _)
        · show XAt τ _ bx (xj x r 2) ac qv ra rq
          rw [hy, setBox_setBox]
          exact (hx.grow hb13 _).less (le_new (.refl _) (le_none hx.le hb13))
    | 2, _ =>
      by_cases ht : (parts r.key).t = 110
      · have hy : xj x r 2 = { x with id := (parts r.key).id } := by rw [xj, ht]; rfl
        have hy2 : xj x r 3 = tell 110 (parts r.key).seq r.val { x with id := (parts r.key).id } := by rw [xj, if_pos (by rw [ht]; rfl), add2_tell, ht]
        have hK : Know s [(bx, xc (xj x r 2) ac qv), (b2, xc sub0 .nils .nils)] := hK
        rw [hy] at hx hK
        generalize hyy : ({ x with id := (parts r.key).id } : Sub) = y at hx hK hy hy2
        have hya : y.acks = x.acks := by rw [← hyy]
        have hyq : y.queue = x.queue := by rw [← hyy]
        have hpt : ((parts r.key).t.toNat : Int) = 110 := by rw [ht]; rfl
        show ∃ B, Know s B ∧ xOpen [(0, .slc 2 (l.map eRow) .no), (2, .ptr b2 0), (4, .ptr bx 0), (16, .slc 2 (l.map eRow) .no), (17, .int .i64 l.length), (18, .int .i64 i), (6, .vp (eRow r)), (8, .int .u8 (parts r.key).t.toNat), (10, .int .i64 (parts r.key).seq), (33, .agg tabs2), (34, .int .i64 ((2 : Nat) : Int))] B _
        rw [hpt]
        refine ⟨_, hK, ?_⟩; (conv => whnf); refine SIf.y Ty.mixed (by exact rfl) ?_; (conv => whnf); refine And.intro (by omega) ?_; (conv => whnf); refine ⟨_, rfl, ?_⟩; (conv => whnf); intro b13 hb13; (conv => whnf); refine SStore.on 0 rfl ?_; (conv => whnf); refine SLoad.on 0 rfl ?_; (conv => whnf); refine SIf.y Ty.mixed (by exact rfl) ?_; (conv => whnf); refine SReg.fz 13 hb13 rfl rfl ?_
        refine SReg.two [0, 1, 2, 3, 5, 6, 7] 4 8 [9] [0, 0, 0, 0, 2, 0, 0, 0, 2, 2] (by decide +kernel) ?_; (conv => whnf)
        skip
        refine And.intro ?_ ?_
        · (conv => whnf)
          refine SCall.wK (fun hB => place_any w0 y ac qv ra rq _ bx 110 (parts r.key).seq _ (by rw [hyq]; omega) hx) rfl ?_; rintro rr s1 ⟨bm, o, qv', rq', rfl, hx1, hp⟩ hB; refine ⟨_, hx1.know hK2, ?_⟩; (conv => whnf); refine SBox.b rfl ?_; (conv => whnf); intro br hbr; (conv => whnf)
          refine SCall.wK (fun hB => rT_n w0 _ _ bx br bm o y ac qv' ra rq' (parts r.key).seq r.val (by omega) (by rw [hya]; omega) (hx1.other (le_none hx1.le hbr) (hx1.ne hbr) (hx1.ra_ne hbr) (hx1.rq_ne hbr) _) (hp.keep hbr _) setBox_same (le_none hx1.le hbr) (hx1.ne hbr) (hx1.ra_ne hbr) (hx1.rq_ne hbr) (hp.ne hx1 hbr)) rfl ?_; rintro rr s2 ⟨rfl, ac', ra', hx2⟩ hB; refine ⟨_, hx2.know hK2, ?_⟩
          (conv => whnf); refine ⟨_, IntWalk.i64_in _ (by omega), ?_⟩; (conv => whnf)
          refine ⟨(3, ac', ra', qv', rq'), by show 6 - (2 + 1) < 6 - 2; decide, by repeat (first | exact trivial | refine ⟨by first | trivial | exact Weak.refl _ | exact Weak.tok _ _ _ | exact Weak.of_eq (congrArg (AV.int _) (by omega)) | exact Weak.of_eq (congrArg AV.bool (by fail)) | exact Weak.nils _ _ (.inr rfl), ?_⟩), ?_, by decide, ?_⟩
          · show BSub [(bx, xc (xj x r 3) ac' qv'), _] _
            rw [hy2]
            exact .refl _
          · show XAt τ _ bx (xj x r 3) ac' qv' ra' rq'
            rw [hy2]
            exact hx2
        · (conv => whnf)
          refine SBox.b rfl ?_; (conv => whnf); intro br hbr; (conv => whnf)
          have hxg := hx.grow hbr (rd2 r.val (0, false))
          have hKr := hK2.new (cs := rd2 r.val (0, false)) (le_none hx.le hbr)
          refine SCall.wK (fun hB => place_any w0 y ac qv ra rq _ bx 110 (parts r.key).seq _ (by rw [hyq]; omega) hxg) rfl ?_; rintro rr s1 ⟨bm, o, qv', rq', rfl, hx1, hp⟩ hB; refine ⟨_, hx1.know hKr, ?_⟩
          have hττ : St.Le τ (τ.setBox br (rd2 r.val (0, false))) := le_new (.refl _) (le_none hx.le hbr)
          have hqn : rq' ≠ some br := fun e => by have := (hx1.qn _ e).1; rw [setBox_same] at this; cases this
          (conv => whnf)
          skip
          refine SCall.wK (fun hB => rT_n w0 _ _ bx br bm o y ac qv' ra rq' (parts r.key).seq r.val (by omega) (by rw [hya]; omega) (hx1.less hττ) (hp.less hττ) (hx1.le.box _ _ setBox_same) (le_none hx.le hbr) (hx.ne hbr) (hx.ra_ne hbr) hqn (hp.ne' hx1 setBox_same)) rfl ?_; rintro rr s2 ⟨rfl, ac', ra', hx2⟩ hB; refine ⟨_, hx2.know hK2, ?_⟩; (conv => whnf)
          refine ⟨_, IntWalk.i64_in _ (by omega), ?_⟩; (conv => whnf)
          refine ⟨(3, ac', ra', qv', rq'), by show 6 - (2 + 1) < 6 - 2; decide, by repeat (first | exact trivial | refine ⟨by first | trivial | exact Weak.refl _ | exact Weak.tok _ _ _ | exact Weak.of_eq (congrArg (AV.int _) (by omega)) | exact Weak.of_eq (congrArg AV.bool (by fail)) | exact Weak.nils _ _ (.inr rfl), ?_⟩), ?_, by decide, ?_⟩
          · show BSub [(bx, xc (xj x r 3) ac' qv'), _] _
            rw [hy2]
            exact .refl _
          · show XAt τ _ bx (xj x r 3) ac' qv' ra' rq'
            rw [hy2]
            exact hx2
      · have hd := hT 110 ht
        have hy : xj x r 3 = xj x r 2 := by unfold xj; congr 1; simp [done2, ht]
        refine ⟨_, hK, ?_⟩; (conv => whnf); refine SIf.y Ty.mixed (by exact rfl) ?_; (conv => whnf); refine And.intro (by omega) ?_; (conv => whnf); refine ⟨_, rfl, ?_⟩; (conv => whnf); intro b13 hb13; (conv => whnf); refine SStore.on 0 rfl ?_; (conv => whnf); refine SLoad.on 0 rfl ?_; (conv => whnf); refine SIf.n Ty.mixed (by assumption) ?_; (conv => whnf)
        refine ⟨_, IntWalk.i64_in _ (by omega), ?_⟩; (conv => whnf)
        refine ⟨(3, ac, ra, qv, rq), by show 6 - (2 + 1) < 6 - 2; decide, by repeat (first | exact trivial | refine ⟨by first | trivial | exact Weak.refl _ | exact Weak.tok _ _ _ | exact Weak.of_eq (congrArg (AV.int _) (by omega)) | exact Weak.of_eq (congrArg AV.bool (by fail)) | exact Weak.nils _ _ (.inr rfl), ?_⟩), ?_, by decide, ?_⟩
        · show BSub [(bx, xc (xj x r 3) ac qv), _] _
          rw [hy]
          exact .drop (.refl _)
        · show XAt τ _ bx (xj x r 3) ac qv ra rq
          rw [hy, setBox_setBox]
          exact (hx.grow hb13 _).less (le_new (.refl _) (le_none hx.le hb13))
    | 3, _ =>
      by_cases ht : (parts r.key).t = 113
      · have hy : xj x r 3 = { x with id := (parts r.key).id } := by rw [xj, ht]; rfl
        have hy2 : xj x r 4 = tell 113 (parts r.key).seq r.val { x with id := (parts r.key).id } := by rw [xj, if_pos (by rw [ht]; rfl), add2_tell, ht]
        have hK : Know s [(bx, xc (xj x r 3) ac qv), (b2, xc sub0 .nils .nils)] := hK
        rw [hy] at hx hK
        generalize hyy : ({ x with id := (parts r.key).id } : Sub) = y at hx hK hy hy2
        have hya : y.acks = x.acks := by rw [← hyy]
        have hyq : y.queue = x.queue := by rw [← hyy]
        have hpt : ((parts r.key).t.toNat : Int) = 113 := by rw [ht]; rfl
        show ∃ B, Know s B ∧ xOpen [(0, .slc 2 (l.map eRow) .no), (2, .ptr b2 0), (4, .ptr bx 0), (16, .slc 2 (l.map eRow) .no), (17, .int .i64 l.length), (18, .int .i64 i), (6, .vp (eRow r)), (8, .int .u8 (parts r.key).t.toNat), (10, .int .i64 (parts r.key).seq), (33, .agg tabs2), (34, .int .i64 ((3 : Nat) : Int))] B _
        rw [hpt]
        refine ⟨_, hK, ?_⟩; (conv => whnf); refine SIf.y Ty.mixed (by exact rfl) ?_; (conv => whnf); refine And.intro (by omega) ?_; (conv => whnf); refine ⟨_, rfl, ?_⟩; (conv => whnf); intro b13 hb13; (conv => whnf); refine SStore.on 0 rfl ?_; (conv => whnf); refine SLoad.on 0 rfl ?_; (conv => whnf); refine SIf.y Ty.mixed (by exact rfl) ?_; (conv => whnf); refine SReg.fz 13 hb13 rfl rfl ?_
        refine SReg.two [0, 1, 2, 3, 5, 6, 7] 4 8 [9] [0, 0, 0, 0, 2, 0, 0, 0, 2, 2] (by decide +kernel) ?_; (conv => whnf)
        skip
        refine And.intro ?_ ?_
        · (conv => whnf)
          refine SCall.wK (fun hB => place_any w0 y ac qv ra rq _ bx 113 (parts r.key).seq _ (by rw [hyq]; omega) hx) rfl ?_; rintro rr s1 ⟨bm, o, qv', rq', rfl, hx1, hp⟩ hB; refine ⟨_, hx1.know hK2, ?_⟩; (conv => whnf); refine SBox.b rfl ?_; (conv => whnf); intro br hbr; (conv => whnf)
          refine SCall.wK (fun hB => rT_q w0 _ _ bx br bm o y ac qv' ra rq' (parts r.key).seq r.val (by omega) (by rw [hya]; omega) (hx1.other (le_none hx1.le hbr) (hx1.ne hbr) (hx1.ra_ne hbr) (hx1.rq_ne hbr) _) (hp.keep hbr _) setBox_same (le_none hx1.le hbr) (hx1.ne hbr) (hx1.ra_ne hbr) (hx1.rq_ne hbr) (hp.ne hx1 hbr)) rfl ?_; rintro rr s2 ⟨rfl, ac', ra', hx2⟩ hB; refine ⟨_, hx2.know hK2, ?_⟩
          (conv => whnf); refine ⟨_, IntWalk.i64_in _ (by omega), ?_⟩; (conv => whnf)
          refine ⟨(4, ac', ra', qv', rq'), by show 6 - (3 + 1) < 6 - 3; decide, by repeat (first | exact trivial | refine ⟨by first | trivial | exact Weak.refl _ | exact Weak.tok _ _ _ | exact Weak.of_eq (congrArg (AV.int _) (by omega)) | exact Weak.of_eq (congrArg AV.bool (by fail)) | exact Weak.nils _ _ (.inr rfl), ?_⟩), ?_, by decide, ?_⟩
          · show BSub [(bx, xc (xj x r 4) ac' qv'), _] _
            rw [hy2]
            exact .refl _
          · show XAt τ _ bx (xj x r 4) ac' qv' ra' rq'
            rw [hy2]
            exact hx2
        · (conv => whnf)
          refine SBox.b rfl ?_; (conv => whnf); intro br hbr; (conv => whnf)
          have hxg := hx.grow hbr (rd2 r.val (0, false))
          have hKr := hK2.new (cs := rd2 r.val (0, false)) (le_none hx.le hbr)
          refine SCall.wK (fun hB => place_any w0 y ac qv ra rq _ bx 113 (parts r.key).seq _ (by rw [hyq]; omega) hxg) rfl ?_; rintro rr s1 ⟨bm, o, qv', rq', rfl, hx1, hp⟩ hB; refine ⟨_, hx1.know hKr, ?_⟩
          have hττ : St.Le τ (τ.setBox br (rd2 r.val (0, false))) := le_new (.refl _) (le_none hx.le hbr)
          have hqn : rq' ≠ some br := fun e => by have := (hx1.qn _ e).1; rw [setBox_same] at this; cases this
          (conv => whnf)
          skip
          refine SCall.wK (fun hB => rT_q w0 _ _ bx br bm o y ac qv' ra rq' (parts r.key).seq r.val (by omega) (by rw [hya]; omega) (hx1.less hττ) (hp.less hττ) (hx1.le.box _ _ setBox_same) (le_none hx.le hbr) (hx.ne hbr) (hx.ra_ne hbr) hqn (hp.ne' hx1 setBox_same)) rfl ?_; rintro rr s2 ⟨rfl, ac', ra', hx2⟩ hB; refine ⟨_, hx2.know hK2, ?_⟩; (conv => whnf)
          refine ⟨_, IntWalk.i64_in _ (by omega), ?_⟩; (conv => whnf)
          refine ⟨(4, ac', ra', qv', rq'), by show 6 - (3 + 1) < 6 - 3; decide, by repeat (first | exact trivial | refine ⟨by first | trivial | exact Weak.refl _ | exact Weak.tok _ _ _ | exact Weak.of_eq (congrArg (AV.int _) (by omega)) | exact Weak.of_eq (congrArg AV.bool (by fail)) | exact Weak.nils _ _ (.inr rfl), ?_⟩), ?_, by decide, ?_⟩
          · show BSub [(bx, xc (xj x r 4) ac' qv'), _] _
            rw [hy2]
            exact .refl _
          · show XAt τ _ bx (xj x r 4) ac' qv' ra' rq'
            rw [hy2]
            exact hx2
      · have hd := hT 113 ht
        have hy : xj x r 4 = xj x r 3 := by unfold xj; congr 1; simp [done2, ht]
        refine ⟨_, hK, ?_⟩; (conv => whnf); refine SIf.y Ty.mixed (by exact rfl) ?_; (conv => whnf); refine And.intro (by omega) ?_; (conv => whnf); refine ⟨_, rfl, ?_⟩; (conv => whnf); intro b13 hb13; (conv => whnf); refine SStore.on 0 rfl ?_; (conv => whnf); refine SLoad.on 0 rfl ?_; (conv => whnf); refine SIf.n Ty.mixed (by assumption) ?_; (conv => whnf)
        refine ⟨_, IntWalk.i64_in _ (by omega), ?_⟩; (conv => whnf)
        refine ⟨(4, ac, ra, qv, rq), by show 6 - (3 + 1) < 6 - 3; decide, by repeat (first | exact trivial | refine ⟨by first | trivial | exact Weak.refl _ | exact Weak.tok _ _ _ | exact Weak.of_eq (congrArg (AV.int _) (by omega)) | exact Weak.of_eq (congrArg AV.bool (by fail)) | exact Weak.nils _ _ (.inr rfl), ?_⟩), ?_, by decide, ?_⟩
        · show BSub [(bx, xc (xj x r 4) ac qv), _] _
          rw [hy]
          exact .drop (.refl _)
        · show XAt τ _ bx (xj x r 4) ac qv ra rq
          rw [hy, setBox_setBox]
          exact (hx.grow hb13 _).less (le_new (.refl _) (le_none hx.le hb13))
    | 4, _ =>
      by_cases ht : (parts r.key).t = 115
      · have hy : xj x r 4 = { x with id := (parts r.key).id } := by rw [xj, ht]; rfl
        have hy2 : xj x r 5 = tell 115 (parts r.key).seq r.val { x with id := (parts r.key).id } := by rw [xj, if_pos (by rw [ht]; rfl), add2_tell, ht]
        have hK : Know s [(bx, xc (xj x r 4) ac qv), (b2, xc sub0 .nils .nils)] := hK
        rw [hy] at hx hK
        generalize hyy : ({ x with id := (parts r.key).id } : Sub) = y at hx hK hy hy2
        have hya : y.acks = x.acks := by rw [← hyy]
        have hyq : y.queue = x.queue := by rw [← hyy]
        have hpt : ((parts r.key).t.toNat : Int) = 115 := by rw [ht]; rfl
        show ∃ B, Know s B ∧ xOpen [(0, .slc 2 (l.map eRow) .no), (2, .ptr b2 0), (4, .ptr bx 0), (16, .slc 2 (l.map eRow) .no), (17, .int .i64 l.length), (18, .int .i64 i), (6, .vp (eRow r)), (8, .int .u8 (parts r.key).t.toNat), (10, .int .i64 (parts r.key).seq), (33, .agg tabs2), (34, .int .i64 ((4 : Nat) : Int))] B _
        rw [hpt]
        refine ⟨_, hK, ?_⟩; (conv => whnf); refine SIf.y Ty.mixed (by exact rfl) ?_; (conv => whnf); refine And.intro (by omega) ?_; (conv => whnf); refine ⟨_, rfl, ?_⟩; (conv => whnf); intro b13 hb13; (conv => whnf); refine SStore.on 0 rfl ?_; (conv => whnf); refine SLoad.on 0 rfl ?_; (conv => whnf); refine SIf.y Ty.mixed (by exact rfl) ?_; (conv => whnf); refine SReg.fz 13 hb13 rfl rfl ?_
        refine SReg.two [0, 1, 2, 3, 5, 6, 7] 4 8 [9] [0, 0, 0, 0, 2, 0, 0, 0, 2, 2] (by decide +kernel) ?_; (conv => whnf)
        skip
        refine And.intro ?_ ?_
        · (conv => whnf)
          refine SCall.wK (fun hB => place_any w0 y ac qv ra rq _ bx 115 (parts r.key).seq _ (by rw [hyq]; omega) hx) rfl ?_; rintro rr s1 ⟨bm, o, qv', rq', rfl, hx1, hp⟩ hB; refine ⟨_, hx1.know hK2, ?_⟩; (conv => whnf); refine SBox.b rfl ?_; (conv => whnf); intro br hbr; (conv => whnf)
          refine SCall.wK (fun hB => rT_s w0 _ _ bx br bm o y ac qv' ra rq' (parts r.key).seq r.val (by omega) (by rw [hya]; omega) (hx1.other (le_none hx1.le hbr) (hx1.ne hbr) (hx1.ra_ne hbr) (hx1.rq_ne hbr) _) (hp.keep hbr _) setBox_same (le_none hx1.le hbr) (hx1.ne hbr) (hx1.ra_ne hbr) (hx1.rq_ne hbr) (hp.ne hx1 hbr)) rfl ?_; rintro rr s2 ⟨rfl, ac', ra', hx2⟩ hB; refine ⟨_, hx2.know hK2, ?_⟩
          (conv => whnf); refine ⟨_, IntWalk.i64_in _ (by omega), ?_⟩; (conv => whnf)
          refine ⟨(5, ac', ra', qv', rq'), by show 6 - (4 + 1) < 6 - 4; decide, by repeat (first | exact trivial | refine ⟨by first | trivial | exact Weak.refl _ | exact Weak.tok _ _ _ | exact Weak.of_eq (congrArg (AV.int _) (by omega)) | exact Weak.of_eq (congrArg AV.bool (by fail)) | exact Weak.nils _ _ (.inr rfl), ?_⟩), ?_, by decide, ?_⟩
          · show BSub [(bx, xc (xj x r 5) ac' qv'), _] _
            rw [hy2]
            exact .refl _
          · show XAt τ _ bx (xj x r 5) ac' qv' ra' rq'
            rw [hy2]
            exact hx2
        · (conv => whnf)
          refine SBox.b rfl ?_; (conv => whnf); intro br hbr; (conv => whnf)
          have hxg := hx.grow hbr (rd2 r.val (0, false))
          have hKr := hK2.new (cs := rd2 r.val (0, false)) (le_none hx.le hbr)
          refine SCall.wK (fun hB => place_any w0 y ac qv ra rq _ bx 115 (parts r.key).seq _ (by rw [hyq]; omega) hxg) rfl ?_; rintro rr s1 ⟨bm, o, qv', rq', rfl, hx1, hp⟩ hB; refine ⟨_, hx1.know hKr, ?_⟩
          have hττ : St.Le τ (τ.setBox br (rd2 r.val (0, false))) := le_new (.refl _) (le_none hx.le hbr)
          have hqn : rq' ≠ some br := fun e => by have := (hx1.qn _ e).1; rw [setBox_same] at this; cases this
          (conv => whnf)
          skip
          refine SCall.wK (fun hB => rT_s w0 _ _ bx br bm o y ac qv' ra rq' (parts r.key).seq r.val (by omega) (by rw [hya]; omega) (hx1.less hττ) (hp.less hττ) (hx1.le.box _ _ setBox_same) (le_none hx.le hbr) (hx.ne hbr) (hx.ra_ne hbr) hqn (hp.ne' hx1 setBox_same)) rfl ?_; rintro rr s2 ⟨rfl, ac', ra', hx2⟩ hB; refine ⟨_, hx2.know hK2, ?_⟩; (conv => whnf)
          refine ⟨_, IntWalk.i64_in _ (by omega), ?_⟩; (conv => whnf)
          refine ⟨(5, ac', ra', qv', rq'), by show 6 - (4 + 1) < 6 - 4; decide, by repeat (first | exact trivial | refine ⟨by first | trivial | exact Weak.refl _ | exact Weak.tok _ _ _ | exact Weak.of_eq (congrArg (AV.int _) (by omega)) | exact Weak.of_eq (congrArg AV.bool (by fail)) | exact Weak.nils _ _ (.inr rfl), ?_⟩), ?_, by decide, ?_⟩
          · show BSub [(bx, xc (xj x r 5) ac' qv'), _] _
            rw [hy2]
            exact .refl _
          · show XAt τ _ bx (xj x r 5) ac' qv' ra' rq'
            rw [hy2]
            exact hx2
      · have hd := hT 115 ht
        have hy : xj x r 5 = xj x r 4 := by unfold xj; congr 1; simp [done2, ht]
        refine ⟨_, hK, ?_⟩; (conv => whnf); refine SIf.y Ty.mixed (by exact rfl) ?_; (conv => whnf); refine And.intro (by omega) ?_; (conv => whnf); refine ⟨_, rfl, ?_⟩; (conv => whnf); intro b13 hb13; (conv => whnf); refine SStore.on 0 rfl ?_; (conv => whnf); refine SLoad.on 0 rfl ?_; (conv => whnf); refine SIf.n Ty.mixed (by assumption) ?_; (conv => whnf)
        refine ⟨_, IntWalk.i64_in _ (by omega), ?_⟩; (conv => whnf)
        refine ⟨(5, ac, ra, qv, rq), by show 6 - (4 + 1) < 6 - 4; decide, by repeat (first | exact trivial | refine ⟨by first | trivial | exact Weak.refl _ | exact Weak.tok _ _ _ | exact Weak.of_eq (congrArg (AV.int _) (by omega)) | exact Weak.of_eq (congrArg AV.bool (by fail)) | exact Weak.nils _ _ (.inr rfl), ?_⟩), ?_, by decide, ?_⟩
        · show BSub [(bx, xc (xj x r 5) ac qv), _] _
          rw [hy]
          exact .drop (.refl _)
        · show XAt τ _ bx (xj x r 5) ac qv ra rq
          rw [hy, setBox_setBox]
          exact (hx.grow hb13 _).less (le_new (.refl _) (le_none hx.le hb13))
    | 5, _ =>
      by_cases ht : (parts r.key).t = 120
      · have hy : xj x r 5 = { x with id := (parts r.key).id } := by rw [xj, ht]; rfl
        have hy2 : xj x r 6 = tell 120 (parts r.key).seq r.val { x with id := (parts r.key).id } := by rw [xj, if_pos (by rw [ht]; rfl), add2_tell, ht]
        have hK : Know s [(bx, xc (xj x r 5) ac qv), (b2, xc sub0 .nils .nils)] := hK
        rw [hy] at hx hK
        generalize hyy : ({ x with id := (parts r.key).id } : Sub) = y at hx hK hy hy2
        have hya : y.acks = x.acks := by rw [← hyy]
        have hyq : y.queue = x.queue := by rw [← hyy]
        have hpt : ((parts r.key).t.toNat : Int) = 120 := by rw [ht]; rfl
        show ∃ B, Know s B ∧ xOpen [(0, .slc 2 (l.map eRow) .no), (2, .ptr b2 0), (4, .ptr bx 0), (16, .slc 2 (l.map eRow) .no), (17, .int .i64 l.length), (18, .int .i64 i), (6, .vp (eRow r)), (8, .int .u8 (parts r.key).t.toNat), (10, .int .i64 (parts r.key).seq), (33, .agg tabs2), (34, .int .i64 ((5 : Nat) : Int))] B _
        rw [hpt]
        refine ⟨_, hK, ?_⟩; (conv => whnf); refine SIf.y Ty.mixed (by exact rfl) ?_; (conv => whnf); refine And.intro (by omega) ?_; (conv => whnf); refine ⟨_, rfl, ?_⟩; (conv => whnf); intro b13 hb13; (conv => whnf); refine SStore.on 0 rfl ?_; (conv => whnf); refine SLoad.on 0 rfl ?_; (conv => whnf); refine SIf.y Ty.mixed (by exact rfl) ?_; (conv => whnf); refine SReg.fz 13 hb13 rfl rfl ?_
        refine SReg.two [0, 1, 2, 3, 5, 6, 7] 4 8 [9] [0, 0, 0, 0, 2, 0, 0, 0, 2, 2] (by decide +kernel) ?_; (conv => whnf)
        skip
        refine And.intro ?_ ?_
        · (conv => whnf)
          refine SCall.wK (fun hB => place_any w0 y ac qv ra rq _ bx 120 (parts r.key).seq _ (by rw [hyq]; omega) hx) rfl ?_; rintro rr s1 ⟨bm, o, qv', rq', rfl, hx1, hp⟩ hB; refine ⟨_, hx1.know hK2, ?_⟩; (conv => whnf); refine SBox.b rfl ?_; (conv => whnf); intro br hbr; (conv => whnf)
          refine SCall.wK (fun hB => rT_x w0 _ _ bx br bm o y ac qv' ra rq' (parts r.key).seq r.val (by omega) (by rw [hya]; omega) (hx1.other (le_none hx1.le hbr) (hx1.ne hbr) (hx1.ra_ne hbr) (hx1.rq_ne hbr) _) (hp.keep hbr _) setBox_same (le_none hx1.le hbr) (hx1.ne hbr) (hx1.ra_ne hbr) (hx1.rq_ne hbr) (hp.ne hx1 hbr)) rfl ?_; rintro rr s2 ⟨rfl, ac', ra', hx2⟩ hB; refine ⟨_, hx2.know hK2, ?_⟩
          (conv => whnf); refine ⟨_, IntWalk.i64_in _ (by omega), ?_⟩; (conv => whnf)
          refine ⟨(6, ac', ra', qv', rq'), by show 6 - (5 + 1) < 6 - 5; decide, by repeat (first | exact trivial | refine ⟨by first | trivial | exact Weak.refl _ | exact Weak.tok _ _ _ | exact Weak.of_eq (congrArg (AV.int _) (by omega)) | exact Weak.of_eq (congrArg AV.bool (by fail)) | exact Weak.nils _ _ (.inr rfl), ?_⟩), ?_, by decide, ?_⟩
          · show BSub [(bx, xc (xj x r 6) ac' qv'), _] _
            rw [hy2]
            exact .refl _
          · show XAt τ _ bx (xj x r 6) ac' qv' ra' rq'
            rw [hy2]
            exact hx2
        · (conv => whnf)
          refine SBox.b rfl ?_; (conv => whnf); intro br hbr; (conv => whnf)
          have hxg := hx.grow hbr (rd2 r.val (0, false))
          have hKr := hK2.new (cs := rd2 r.val (0, false)) (le_none hx.le hbr)
          refine SCall.wK (fun hB => place_any w0 y ac qv ra rq _ bx 120 (parts r.key).seq _ (by rw [hyq]; omega) hxg) rfl ?_; rintro rr s1 ⟨bm, o, qv', rq', rfl, hx1, hp⟩ hB; refine ⟨_, hx1.know hKr, ?_⟩
          have hττ : St.Le τ (τ.setBox br (rd2 r.val (0, false))) := le_new (.refl _) (le_none hx.le hbr)
          have hqn : rq' ≠ some br := fun e => by have := (hx1.qn _ e).1; rw [setBox_same] at this; cases this
          (conv => whnf)
          skip
          refine SCall.wK (fun hB => rT_x w0 _ _ bx br bm o y ac qv' ra rq' (parts r.key).seq r.val (by omega) (by rw [hya]; omega) (hx1.less hττ) (hp.less hττ) (hx1.le.box _ _ setBox_same) (le_none hx.le hbr) (hx.ne hbr) (hx.ra_ne hbr) hqn (hp.ne' hx1 setBox_same)) rfl ?_; rintro rr s2 ⟨rfl, ac', ra', hx2⟩ hB; refine ⟨_, hx2.know hK2, ?_⟩; (conv => whnf)
          refine ⟨_, IntWalk.i64_in _ (by omega), ?_⟩; (conv => whnf)
          refine ⟨(6, ac', ra', qv', rq'), by show 6 - (5 + 1) < 6 - 5; decide, by repeat (first | exact trivial | refine ⟨by first | trivial | exact Weak.refl _ | exact Weak.tok _ _ _ | exact Weak.of_eq (congrArg (AV.int _) (by omega)) | exact Weak.of_eq (congrArg AV.bool (by fail)) | exact Weak.nils _ _ (.inr rfl), ?_⟩), ?_, by decide, ?_⟩
          · show BSub [(bx, xc (xj x r 6) ac' qv'), _] _
            rw [hy2]
            exact .refl _
          · show XAt τ _ bx (xj x r 6) ac' qv' ra' rq'
            rw [hy2]
            exact hx2
      · have hd := hT 120 ht
        have hy : xj x r 6 = xj x r 5 := by unfold xj; congr 1; simp [done2, ht]
        refine ⟨_, hK, ?_⟩; (conv => whnf); refine SIf.y Ty.mixed (by exact rfl) ?_; (conv => whnf); refine And.intro (by omega) ?_; (conv => whnf); refine ⟨_, rfl, ?_⟩; (conv => whnf); intro b13 hb13; (conv => whnf); refine SStore.on 0 rfl ?_; (conv => whnf); refine SLoad.on 0 rfl ?_; (conv => whnf); refine SIf.n Ty.mixed (by assumption) ?_; (conv => whnf)
        refine ⟨_, IntWalk.i64_in _ (by omega), ?_⟩; (conv => whnf)
        refine ⟨(6, ac, ra, qv, rq), by show 6 - (5 + 1) < 6 - 5; decide, by repeat (first | exact trivial | refine ⟨by first | trivial | exact Weak.refl _ | exact Weak.tok _ _ _ | exact Weak.of_eq (congrArg (AV.int _) (by omega)) | exact Weak.of_eq (congrArg AV.bool (by fail)) | exact Weak.nils _ _ (.inr rfl), ?_⟩), ?_, by decide, ?_⟩
        · show BSub [(bx, xc (xj x r 6) ac qv), _] _
          rw [hy]
          exact .drop (.refl _)
        · show XAt τ _ bx (xj x r 6) ac qv ra rq
          rw [hy, setBox_setBox]
          exact (hx.grow hb13 _).less (le_new (.refl _) (le_none hx.le hb13))
    | 6, _ =>
      refine ⟨_, hK, ?_⟩; (conv => whnf); refine SIf.n Ty.mixed (by exact rfl) ?_; (conv => whnf); refine ⟨_, IntWalk.i64_in _ (by omega), ?_⟩; (conv => whnf)
      rw [hxs, ← hsn] at hx
      refine ⟨(i + 1, ac, ra, qv, rq), by show l.length - (i + 1) < l.length - i; omega, by repeat (first | exact trivial | refine ⟨by first | trivial | exact Weak.refl _ | exact Weak.tok _ _ _ | exact Weak.of_eq (congrArg (AV.int _) (by omega)) | exact Weak.of_eq (congrArg AV.bool (by fail)) | exact Weak.nils _ _ (.inr rfl), ?_⟩), ?_, by omega, hx⟩
      show BSub [(bx, xc (rows2 (l.take (i + 1))) ac qv), _] _
      rw [hsn, ← hxs]
      exact .refl _
    | n + 7, h => exact absurd h (by omega)
  · have hc : decide ((i : Int) < (l.length : Nat)) = false := decide_eq_false (by omega)
    have hge : i = l.length := by omega
    subst hge
    rw [List.take_length] at hx
    have hK : Know s [(bx, xc (rows2 l) ac qv), (b2, xc sub0 .nils .nils)] := by have h := hK; simp only [List.take_length] at h; exact h
    refine ⟨_, hK, ?_⟩
    have hft := rows2_fit l l.length (Nat.le_refl _)
    rw [List.take_length] at hft
    have hac := hft.acks
    have hfin : fin2 l = { rows2 l with acks := runUp (rows2 l).floor (rows2 l).acks } := rfl
    generalize rows2 l = x at hx hac hfin hK
    cases hax : hx.a with
    | nil h0 =>
      have h0' : x.acks = [] := by simpa using h0
      have hX : XAt τ s bx (fin2 l) .nils qv none rq := by
        have : fin2 l = x := by rw [hfin, h0', runUp, ← h0']
        rw [this]; exact hx
      (conv => whnf); refine SIf.n Ty.mixed (by assumption) ?_; (conv => whnf); refine SLoad.on 0 rfl ?_; (conv => whnf); refine SLoad.on 0 rfl ?_; (conv => whnf)
      refine SLoop.by2 Ty.mixed (fun (_ : Unit) => 0) (fun _ => [(0, .slc 2 (l.map eRow) .no), (2, .ptr b2 0), (4, .ptr bx 0), (57, .int .i64 0), (58, .int .i64 0)]) (fun _ => []) (fun _ s => XAt τ s bx (fin2 l) .nils qv none rq) () ⟨by repeat (first | exact trivial | refine ⟨by first | trivial | exact Weak.refl _ | exact Weak.tok _ _ _ | exact Weak.of_eq (congrArg (AV.int _) (by omega)) | exact Weak.of_eq (congrArg AV.bool (by fail)) | exact Weak.nils _ _ (.inr rfl), ?_⟩), BSub.none _, hX⟩ ?_
      clear hX hx hK hax; rintro _ s hX hK; refine ⟨[], .nil _, ?_⟩
      · (conv => whnf)
        refine SIf.n Ty.mixed (by exact rfl) ?_; (conv => whnf)
        refine SCall.wK (fun hB => XAt.seal hX fun s1 h1 h2 => ((rising2_any w0 l .no (by omega)) s1).mono fun r s2 ⟨e1, e2⟩ => (⟨e1, by subst e2; exact h1, by subst e2; exact h2⟩ : r = AV.bool (upTo l l.length) ∧ St.Le τ s2 ∧ s2.box bx = some (xc (fin2 l) (eInts (fin2 l).acks) (eMsgs (fin2 l).queue)))) rfl ?_
        rintro rr s2 ⟨rfl, h1, h2⟩ hB
        have hbn : bx ∉ ([(b2, xc sub0 .nils .nils)] : BL).map (·.1) := by
          simp only [List.map_cons, List.map_nil, List.mem_singleton]
          rintro rfl
          have := hK2.has _ (List.mem_singleton.2 rfl)
          rw [hX.bxn] at this; cases this
        refine ⟨[(bx, xc (fin2 l) (eInts (fin2 l).acks) (eMsgs (fin2 l).queue)), (b2, xc sub0 .nils .nils)], (know_le hK2 h1).add h2 hbn, ?_⟩
        by_cases hu : upTo l l.length = true
        · rw [hu]
          by_cases he : enc2 (fin2 l) = l
          · have hd2 : (!decide (enc2 (fin2 l) = l)) = false := by rw [decide_eq_true he]; rfl
            have hlen2 : (enc2 (fin2 l)).length ≤ 1000000000 := by rw [he]; omega
            have hdec : dec2 l = (fin2 l, 0) := if_pos ⟨hu, he⟩
            rw [hdec]
            (conv => whnf); refine SCond.n (by exact rfl) ?_; (conv => whnf); refine SLoad.on 0 rfl ?_; (conv => whnf); refine SCond.n (by exact rfl) ?_; (conv => whnf); refine SCall.p (by exact enc2_p w0 hL (fin2 l) hfits) ?_; (conv => whnf); refine SCond.n (by exact rfl) ?_; (conv => whnf); refine SCond.n (by exact rfl) ?_; (conv => whnf)
            refine SCall.p (by exact eqRows2_any w0 _ _ _ _ (by omega)) ?_; (conv => whnf); refine SCond.n (by exact rfl) ?_; (conv => whnf); refine SPick.n (by exact rfl) ?_; (conv => whnf); refine SIf.n Ty.mixed (by assumption) ?_; (conv => whnf); refine SLoad.on 0 rfl ?_; (conv => whnf); refine SStore.on 1 rfl ?_; (conv => whnf); refine SLoad.on 1 rfl ?_; (conv => whnf)
            exact .p (le_setBox (hσ.trans h1) hb2) rfl
          · have hd2 : (!decide (enc2 (fin2 l) = l)) = true := by rw [decide_eq_false he]; rfl
            have hlen2 : (enc2 (fin2 l)).length ≤ 1000000000 := enc2_short hfits
            have hdec : dec2 l = (sub0, 11) := if_neg fun h => he h.2
            rw [hdec]
            (conv => whnf); refine SCond.n (by exact rfl) ?_; (conv => whnf); refine SLoad.on 0 rfl ?_; (conv => whnf); refine SCond.n (by exact rfl) ?_; (conv => whnf); refine SCall.p (by exact enc2_p w0 hL (fin2 l) hfits) ?_; (conv => whnf); refine SCond.n (by exact rfl) ?_; (conv => whnf); refine SCond.n (by exact rfl) ?_; (conv => whnf)
            refine SCall.p (by exact eqRows2_any w0 _ _ _ _ (by omega)) ?_; (conv => whnf); refine SCond.n (by exact rfl) ?_; (conv => whnf); refine SPick.n (by exact rfl) ?_; (conv => whnf); refine SIf.y Ty.mixed (by assumption) ?_; (conv => whnf); refine SStore.on 1 rfl ?_; (conv => whnf); refine SLoad.on 1 rfl ?_; (conv => whnf); exact .v (le_setBox (hσ.trans h1) hb2) weak_sub0
        · have hu' : upTo l l.length = false := by simpa using hu
          rw [hu']
          have hdec : dec2 l = (sub0, 11) := if_neg fun h => hu h.1
          rw [hdec]
          (conv => whnf); refine SCond.y (by exact rfl) ?_; (conv => whnf); refine SCond.y (by exact rfl) ?_; (conv => whnf); refine SCond.y (by exact rfl) ?_; (conv => whnf); refine SCond.y (by exact rfl) ?_; (conv => whnf); refine SCond.y (by exact rfl) ?_; (conv => whnf); refine SPick.y (by exact rfl) ?_; (conv => whnf); refine SIf.y Ty.mixed (by exact rfl) ?_; (conv => whnf)
          refine SStore.on 1 rfl ?_; (conv => whnf); refine SLoad.on 1 rfl ?_; (conv => whnf); exact .v (le_setBox (hσ.trans h1) hb2) weak_sub0
    | own b cap junk hb hcp hl2 =>
      rw [List.length_map] at hx hK ⊢
      (conv => whnf); refine SIf.n Ty.mixed (by assumption) ?_; (conv => whnf); refine SLoad.on 0 rfl ?_; (conv => whnf); refine SLoad.on 0 rfl ?_; (conv => whnf)
      refine SLoop.by2 Ty.mixed (fun (a : List Int × List Int × Int) => a.2.1.length) (fun (dn, rest, la) => [(0, .slc 2 (l.map eRow) .no), (2, .ptr b2 0), (4, .ptr bx 0), (14, .int .i64 la), (57, .int .i64 x.acks.length), (58, .int .i64 dn.length)]) (fun _ => [(bx, xc x (.msl b 0 x.acks.length cap) qv), (b2, xc sub0 .nils .nils)])
        (fun (dn, rest, la) s => XAt τ s bx { x with acks := dn ++ rest } (.msl b 0 x.acks.length cap) qv (some b) rq ∧ runUp x.floor x.acks = dn ++ runUp la rest ∧ dn.length + rest.length = x.acks.length) ([], x.acks, x.floor) ⟨by repeat (first | exact trivial | refine ⟨by first | trivial | exact Weak.refl _ | exact Weak.tok _ _ _ | exact Weak.of_eq (congrArg (AV.int _) (by omega)) | exact Weak.of_eq (congrArg AV.bool (by fail)) | exact Weak.nils _ _ (.inr rfl), ?_⟩), .refl _, hx, rfl, by simp⟩ ?_
      clear hx hK hax hb; rintro ⟨dn, rest, la⟩ s ⟨hX, hru, hle⟩ hK
      cases rest with
      | nil =>
        have hc : decide ((dn.length : Int) < (x.acks.length : Nat)) = false := decide_eq_false (by simp at hle; omega)
        have hX : XAt τ s bx (fin2 l) (.msl b 0 x.acks.length cap) qv (some b) rq := by
          rw [runUp, List.append_nil] at hru
          rw [hfin, hru]
          rwa [List.append_nil] at hX
        refine ⟨_, hK, ?_⟩; (conv => whnf); refine SIf.n Ty.mixed (by assumption) ?_; (conv => whnf)
        refine SCall.wK (fun hB => XAt.seal hX fun s1 h1 h2 => ((rising2_any w0 l .no (by omega)) s1).mono fun r s2 ⟨e1, e2⟩ => (⟨e1, by subst e2; exact h1, by subst e2; exact h2⟩ : r = AV.bool (upTo l l.length) ∧ St.Le τ s2 ∧ s2.box bx = some (xc (fin2 l) (eInts (fin2 l).acks) (eMsgs (fin2 l).queue)))) rfl ?_
        rintro rr s2 ⟨rfl, h1, h2⟩ hB
        have hbn : bx ∉ ([(b2, xc sub0 .nils .nils)] : BL).map (·.1) := by
          simp only [List.map_cons, List.map_nil, List.mem_singleton]
          rintro rfl
          have := hK2.has _ (List.mem_singleton.2 rfl)
          rw [hX.bxn] at this; cases this
        refine ⟨[(bx, xc (fin2 l) (eInts (fin2 l).acks) (eMsgs (fin2 l).queue)), (b2, xc sub0 .nils .nils)], (know_le hK2 h1).add h2 hbn, ?_⟩
        by_cases hu : upTo l l.length = true
        · rw [hu]
          by_cases he : enc2 (fin2 l) = l
          · have hd2 : (!decide (enc2 (fin2 l) = l)) = false := by rw [decide_eq_true he]; rfl
            have hlen2 : (enc2 (fin2 l)).length ≤ 1000000000 := by rw [he]; omega
            have hdec : dec2 l = (fin2 l, 0) := if_pos ⟨hu, he⟩
            rw [hdec]
            (conv => whnf); refine SCond.n (by exact rfl) ?_; (conv => whnf); refine SLoad.on 0 rfl ?_; (conv => whnf); refine SCond.n (by exact rfl) ?_; (conv => whnf); refine SCall.p (by exact enc2_p w0 hL (fin2 l) hfits) ?_; (conv => whnf); refine SCond.n (by exact rfl) ?_; (conv => whnf); refine SCond.n (by exact rfl) ?_; (conv => whnf)
            refine SCall.p (by exact eqRows2_any w0 _ _ _ _ (by omega)) ?_; (conv => whnf); refine SCond.n (by exact rfl) ?_; (conv => whnf); refine SPick.n (by exact rfl) ?_; (conv => whnf); refine SIf.n Ty.mixed (by assumption) ?_; (conv => whnf); refine SLoad.on 0 rfl ?_; (conv => whnf); refine SStore.on 1 rfl ?_; (conv => whnf); refine SLoad.on 1 rfl ?_; (conv => whnf)
            exact .p (le_setBox (hσ.trans h1) hb2) rfl
          · have hd2 : (!decide (enc2 (fin2 l) = l)) = true := by rw [decide_eq_false he]; rfl
            have hlen2 : (enc2 (fin2 l)).length ≤ 1000000000 := enc2_short hfits
            have hdec : dec2 l = (sub0, 11) := if_neg fun h => he h.2
            rw [hdec]
            (conv => whnf); refine SCond.n (by exact rfl) ?_; (conv => whnf); refine SLoad.on 0 rfl ?_; (conv => whnf); refine SCond.n (by exact rfl) ?_; (conv => whnf); refine SCall.p (by exact enc2_p w0 hL (fin2 l) hfits) ?_; (conv => whnf); refine SCond.n (by exact rfl) ?_; (conv => whnf); refine SCond.n (by exact rfl) ?_; (conv => whnf)
            refine SCall.p (by exact eqRows2_any w0 _ _ _ _ (by omega)) ?_; (conv => whnf); refine SCond.n (by exact rfl) ?_; (conv => whnf); refine SPick.n (by exact rfl) ?_; (conv => whnf); refine SIf.y Ty.mixed (by assumption) ?_; (conv => whnf); refine SStore.on 1 rfl ?_; (conv => whnf); refine SLoad.on 1 rfl ?_; (conv => whnf); exact .v (le_setBox (hσ.trans h1) hb2) weak_sub0
        · have hu' : upTo l l.length = false := by simpa using hu
          rw [hu']
          have hdec : dec2 l = (sub0, 11) := if_neg fun h => hu h.1
          rw [hdec]
          (conv => whnf); refine SCond.y (by exact rfl) ?_; (conv => whnf); refine SCond.y (by exact rfl) ?_; (conv => whnf); refine SCond.y (by exact rfl) ?_; (conv => whnf); refine SCond.y (by exact rfl) ?_; (conv => whnf); refine SCond.y (by exact rfl) ?_; (conv => whnf); refine SPick.y (by exact rfl) ?_; (conv => whnf); refine SIf.y Ty.mixed (by exact rfl) ?_; (conv => whnf)
          refine SStore.on 1 rfl ?_; (conv => whnf); refine SLoad.on 1 rfl ?_; (conv => whnf); exact .v (le_setBox (hσ.trans h1) hb2) weak_sub0
      | cons a rest =>
        have hc : decide ((dn.length : Int) < (x.acks.length : Nat)) = true := decide_eq_true (by simp at hle; omega)
        simp only [List.length_cons] at hle
        obtain ⟨cap', junk', hb', hcap, hl3⟩ : ∃ (cap' : Nat) (junk' : List AV), s.box b = some (dn.map (AV.int .i64) ++ [AV.int .i64 a] ++ (rest.map (AV.int .i64) ++ junk')) ∧ x.acks.length ≤ cap ∧ cap * 1 ≤ (dn.map (AV.int .i64) ++ [AV.int .i64 a] ++ (rest.map (AV.int .i64) ++ junk')).length := by
          have hq := hX.a
          generalize hv : AV.msl b 0 x.acks.length cap = vv at hq
          cases hq with
          | own b3 cap3 junk3 hb3 hcp3 hl3 =>
            injection hv with e1 e2 e3 e4
            subst e4
            have ef : ({ x with acks := dn ++ a :: rest } : Sub).acks.map (AV.int .i64) = dn.map (AV.int .i64) ++ [AV.int .i64 a] ++ rest.map (AV.int .i64) := by simp
            rw [ints_flat, ef, List.append_assoc] at hb3 hl3
            exact ⟨cap, junk3, hb3, by rw [e3]; exact hcp3, hl3⟩
        have hbb : b ∉ ([(bx, xc x (.msl b 0 x.acks.length cap) qv), (b2, xc sub0 .nils .nils)] : BL).map (·.1) := by
          simp only [List.map_cons, List.map_nil, List.mem_cons, List.not_mem_nil, or_false, not_or]
          refine ⟨(hX.an _ rfl).2, ?_⟩; rintro rfl
          have := hK2.has _ (List.mem_singleton.2 rfl)
          rw [(hX.an _ rfl).1] at this; cases this
        have hw : IntKind.i64.wrap (((dn.length : Nat) : Int) + 1) = ((dn.length : Nat) : Int) + 1 := IntWalk.i64_in _ (by omega)
        have ho : 0 + ((dn.length : Nat) : Int).toNat * 1 = (dn.map (AV.int .i64)).length + 0 := by simp
        refine ⟨_, hK.add hb' hbb, ?_⟩; (conv => whnf); refine SIf.y Ty.mixed (by assumption) ?_; (conv => whnf); refine SLoad.on 1 rfl ?_; (conv => whnf); refine And.intro (by (refine ⟨?_, ?_⟩ <;> omega)) ?_; (conv => whnf); refine SLoad.mid 0 0 rfl ho rfl ?_; (conv => whnf); refine ⟨_, rfl, ?_⟩; (conv => whnf); refine SLoad.on 1 rfl ?_; (conv => whnf)
        refine And.intro (by (refine ⟨?_, ?_⟩ <;> omega)) ?_; (conv => whnf); refine SStore.mid 0 0 rfl ho (Nat.le_of_ble_eq_true rfl) ?_; (conv => whnf); refine ⟨_, hw, ?_⟩; (conv => whnf)
        refine ⟨(dn ++ [w64 (la + a)], rest, w64 (la + a)), Nat.lt_succ_self _, ?_, .drop (.refl _), ?_, ?_, by simp; omega⟩
        · show xWeak [(0, .slc 2 (l.map eRow) .no), (2, .ptr b2 0), (4, .ptr bx 0), (14, .int .i64 (w64 (la + a))), (57, .int .i64 x.acks.length), (58, .int .i64 ((dn ++ [w64 (la + a)]).length : Nat))] _
          rw [List.length_append, List.length_singleton]
          repeat (first | exact trivial | refine ⟨by first | trivial | exact Weak.refl _ | exact Weak.tok _ _ _ | exact Weak.of_eq (congrArg (AV.int _) (by omega)) | exact Weak.of_eq (congrArg AV.bool (by fail)) | exact Weak.nils _ _ (.inr rfl), ?_⟩)
        · have := hX.setA (l' := dn ++ [w64 (la + a)] ++ rest) (junk := junk') (by simp; omega) hcap (by simp at hl3 ⊢; omega)
          simpa [w64] using this
        · rw [hru, runUp]; simp
end Go.Proofs.YtkbmkhhcppfcnaaGreatDoor
end
section
set_option linter.unusedVariables false
set_option linter.unusedSimpArgs false
set_option maxRecDepth 100000
set_option maxHeartbeats 1000000
namespace Go.Proofs.YtkbmkhhcppfcnaaGreatDoor
open Go.Al Go.RowKit
def DoesT (w0 : Base) (f : FuncId) (t : UInt8) : Prop := ∀ (τ σ : St) (bd br : Nat) (x : Sub) (ac qv : AV) (ra rq : Option Nat) (sq : Int) (v : List UInt8), v.length ≤ 1000000 → x.acks.length ≤ 1000000 → x.queue.length ≤ 1000000 → DAt τ σ bd x ac qv ra rq sq (.ptr br 0) → σ.box br = some (rd2 v (0, false)) → τ.box br = none → br ≠ bd → ra ≠ some br → rq ≠ some br →
  CallW Tryz.prog w0 f [.ptr bd 0] σ (fun r s => r = .tup [] ∧ ∃ ac' ra' qv' rq', DAt τ s bd (tell1 t sq v x) ac' qv' ra' rq' sq (.ptr br 0))
def tab1 (bd : Nat) : List (AV × AV) := [(.int .u8 97, .fn (.func 37) [.ptr bd 0] []), (.int .u8 110, .fn (.func 38) [.ptr bd 0] []), (.int .u8 113, .fn (.func 39) [.ptr bd 0] []), (.int .u8 115, .fn (.func 40) [.ptr bd 0] []), (.int .u8 119, .fn (.func 41) [.ptr bd 0] []), (.int .u8 120, .fn (.func 42) [.ptr bd 0] [])]
theorem look1 (w0 : Base) (t : UInt8) (bd : Nat) : (∃ i f, OwnF Tryz.prog f ∧ mfind (.int .u8 t.toNat) (tab1 bd) 0 = some (some (i, .fn (.func f) [.ptr bd 0] [])) ∧ DoesT w0 f t) ∨ (mfind (.int .u8 t.toNat) (tab1 bd) 0 = some none ∧ ∀ sq v x, tell1 t sq v x = x) := by
  by_cases h1 : t = 97
  · subst h1
    exact .inl ⟨_, _, inferInstance, rfl, fun τ σ bd br x ac qv ra rq sq v hv ha hq hx hr hrn g1 g2 g3 => (dack_any w0 x ac qv ra rq sq _ (.inr ⟨_, rfl⟩) τ σ bd ha hx).mono fun r s ⟨e, ac', ra', h⟩ => ⟨e, _, _, _, _, h⟩⟩
  by_cases h2 : t = 110
  · subst h2
    exact .inl ⟨_, _, inferInstance, rfl, fun τ σ bd br x ac qv ra rq sq v hv ha hq hx hr hrn g1 g2 g3 => (dnote_any w0 v x ac qv ra rq sq τ σ bd br hv hx hr hrn g1 g2 g3).mono fun r s ⟨e, h⟩ => ⟨e, _, _, _, _, h⟩⟩
  by_cases h3 : t = 113
  · subst h3
    exact .inl ⟨_, _, inferInstance, rfl, fun τ σ bd br x ac qv ra rq sq v hv ha hq hx hr hrn g1 g2 g3 => (dmsg_any w0 v x ac qv ra rq sq τ σ bd br hv hq hx hr hrn g1 g2 g3).mono fun r s ⟨e, qv', rq', h⟩ => ⟨e, _, _, _, _, h⟩⟩
  by_cases h4 : t = 115
  · subst h4
    exact .inl ⟨_, _, inferInstance, rfl, fun τ σ bd br x ac qv ra rq sq v hv ha hq hx hr hrn g1 g2 g3 => (dsub_any w0 v x ac qv ra rq sq τ σ bd br hv hx hr hrn g1 g2 g3).mono fun r s ⟨e, h⟩ => ⟨e, _, _, _, _, h⟩⟩
  by_cases h5 : t = 119
  · subst h5
    exact .inl ⟨_, _, inferInstance, rfl, fun τ σ bd br x ac qv ra rq sq v hv ha hq hx hr hrn g1 g2 g3 => (dwant_any w0 v x ac qv ra rq sq τ σ bd br hv hx hr hrn g1 g2 g3).mono fun r s ⟨e, h⟩ => ⟨e, _, _, _, _, h⟩⟩
  by_cases h6 : t = 120
  · subst h6
    exact .inl ⟨_, _, inferInstance, rfl, fun τ σ bd br x ac qv ra rq sq v hv ha hq hx hr hrn g1 g2 g3 => (dmore_any w0 v x ac qv ra rq sq τ σ bd br hv hq hx hr hrn g1 g2 g3).mono fun r s ⟨e, h⟩ => ⟨e, _, _, _, _, h⟩⟩
  refine .inr ⟨?_, fun sq v x => by simp only [tell1, h1, h2, h3, h4, h5, h6, if_false]⟩
  have hT : ∀ (u : UInt8), t ≠ u → decide (((t.toNat : Nat) : Int) = ((u.toNat : Nat) : Int)) = false := fun u h => decide_eq_false fun e => h (UInt8.toNat_inj.1 (by omega))
  have d1 := hT 97 h1
  have d2 := hT 110 h2
  have d3 := hT 113 h3
  have d4 := hT 115 h4
  have d5 := hT 119 h5
  have d6 := hT 120 h6
  have e1 : ((97 : UInt8).toNat : Int) = 97 := rfl
  have e2 : ((110 : UInt8).toNat : Int) = 110 := rfl
  have e3 : ((113 : UInt8).toNat : Int) = 113 := rfl
  have e4 : ((115 : UInt8).toNat : Int) = 115 := rfl
  have e5 : ((119 : UInt8).toNat : Int) = 119 := rfl
  have e6 : ((120 : UInt8).toNat : Int) = 120 := rfl
  rw [e1] at d1; rw [e2] at d2; rw [e3] at d3; rw [e4] at d4; rw [e5] at d5; rw [e6] at d6
  simp only [tab1, mfind, keyEqA, if_true, d1, d2, d3, d4, d5, d6]
end Go.Proofs.YtkbmkhhcppfcnaaGreatDoor
end
section
set_option linter.unusedVariables false
set_option linter.unusedSimpArgs false
set_option maxRecDepth 100000
set_option maxHeartbeats 1000000
namespace Go.Proofs.YtkbmkhhcppfcnaaGreatDoor
open Go.Al Go.RowKit
instance : TyM Tryz.prog 63 5 1 (.int .u8) := ⟨Tryz.underlying63, Tryz.underlying5, by
  have h : (Tryz.prog.info? 1).bind (·.zero) = some .nilFunc := by kernel_rfl
  obtain ⟨i, h1, h2⟩ := Option.bind_eq_some_iff.1 h
  exact ⟨i, _, h1, h2⟩⟩
theorem le_both {A A' : St} {m : Nat} {q : Option Ob} (h : St.Le A A') : St.Le (A.setObj m q) (A'.setObj m q) := ⟨h.box, h.tok, fun i o e => by
  by_cases hi : i = m
  · subst hi; rw [setObj_same] at e ⊢; exact e
  · rw [setObj_other hi] at e ⊢; exact h.obj i o e⟩
set_option maxHeartbeats 4000000 in
theorem dec1_p (w0 : Base) (hL : Laid w0) (l : List Row) (tk : Tok) (hl : l.length ≤ 100000) (hv : ∀ r ∈ l, r.val.length ≤ 1000000) (hk : ∀ r ∈ l, r.key.length ≤ 1000000) : CallP Tryz.prog w0 12 [.slc 2 (l.map eRow) tk] (.tup [eSub (dec1 l).1, .int .u16 ((dec1 l).2 : Nat)]) := by
  refine CallP.x Ty.tok Ty.mixed Tryz.func12 rfl Tryz.ntmps12 rfl (by simp) (by decide +kernel) fun σ => ?_
  have hfits := rows1_fits l hl
  (conv => whnf); intro b2 hb2; (conv => whnf); refine SBox.b rfl ?_; (conv => whnf); intro bd hbd
  rw [fAV_eq]
  generalize hk : (fun (L : SL) (σ_1 : St) (B : BL) => Xc Tryz.prog w0 Ty.tt 90 _ _ _ _ L σ_1 B) = kk
  (conv => whnf)
  subst hk
  show Xc _ _ _ _ _ _ _ _ _ _ _
  rw [Xc]
  conv => whnf
  intro m hm; (conv => whnf); refine SMapSet.on rfl (by exact setObj_same) rfl ?_; (conv => whnf); refine SMapSet.on rfl (by exact setObj_same) rfl ?_; (conv => whnf); refine SMapSet.on rfl (by exact setObj_same) rfl ?_; (conv => whnf); refine SMapSet.on rfl (by exact setObj_same) rfl ?_; (conv => whnf); refine SMapSet.on rfl (by exact setObj_same) rfl ?_; (conv => whnf)
  refine SMapSet.on rfl (by exact setObj_same) rfl ?_; (conv => whnf)
  have hbb : bd ≠ b2 := by rintro rfl; rw [setBox_same] at hbd; cases hbd
  have hm0 : σ.obj m = none := hm
  have hb2' : σ.box b2 = none := hb2
  clear hm hb2
  have hK2 : Know ((σ.setBox b2 (xc sub0 .nils .nils)).setObj m (some (.map (tab1 bd)))) [(b2, xc sub0 .nils .nils)] := ((Know.nil σ).new hb2').obj m _
  have hσ : ∀ s, St.Le ((σ.setBox b2 (xc sub0 .nils .nils)).setObj m (some (.map (tab1 bd)))) s → St.Le σ s := fun s h => (le_setObj (le_new (.refl _) hb2') hm0).trans h
  have hτm : ((σ.setBox b2 (xc sub0 .nils .nils)).setObj m (some (.map (tab1 bd)))).obj m = some (.map (tab1 bd)) := setObj_same
  have hτd : ((σ.setBox b2 (xc sub0 .nils .nils)).setObj m (some (.map (tab1 bd)))).box bd = none := hbd
  simp only [setObj_setObj]
  have hx0 : DAt ((σ.setBox b2 (xc sub0 .nils .nils)).setObj m (some (.map (tab1 bd)))) (((σ.setBox b2 (xc sub0 .nils .nils)).setBox bd (dc sub0 .nils .nils 0 .nilp)).setObj m (some (.map (tab1 bd)))) bd sub0 .nils .nils none none 0 .nilp :=
    ⟨le_both (le_new (.refl _) hbd), setBox_same, hbd, .nil rfl, .nil rfl, (fun b e => by cases e), (fun b e => by cases e), (fun b e => by cases e)⟩
  generalize ((σ.setBox b2 (xc sub0 .nils .nils)).setObj m (some (.map (tab1 bd)))) = τ at hK2 hσ hτm hτd hx0
  refine SLoop.by2 Ty.mixed (fun (a : Nat × AV × Option Nat × AV × Option Nat × Int × AV) => l.length - a.1) (fun (i, ac, ra, qv, rq, sq, rp) => [(0, .slc 2 (l.map eRow) .no), (2, .ptr b2 0), (4, .ptr bd 0), (5, .mp m), (31, .slc 2 (l.map eRow) .no), (32, .int .i64 l.length), (33, .int .i64 i)]) (fun (i, ac, ra, qv, rq, sq, rp) => [(bd, dc (rows1 (l.take i)) ac qv sq rp), (b2, xc sub0 .nils .nils)])
    (fun (i, ac, ra, qv, rq, sq, rp) s => i ≤ l.length ∧ DAt τ s bd (rows1 (l.take i)) ac qv ra rq sq rp) (0, .nils, none, .nils, none, 0, .nilp) ⟨?_, .refl _, Nat.zero_le _, hx0⟩ ?_
  · show xWeak [(0, .slc 2 (l.map eRow) .no), (2, .ptr b2 0), (4, .ptr bd 0), (5, .mp m), (31, .slc 2 (l.map eRow) .no), (32, .int .i64 l.length), (33, .int .i64 (0 : Nat))] _
    rw [List.length_map]
    repeat (first | exact trivial | refine ⟨by first | trivial | exact Weak.refl _ | exact Weak.tok _ _ _ | exact Weak.of_eq (congrArg (AV.int _) (by omega)) | exact Weak.of_eq (congrArg AV.bool (by fail)) | exact Weak.nils _ _ (.inr rfl), ?_⟩)
  rintro ⟨i, ac, ra, qv, rq, sq, rp⟩ s ⟨hi, hx⟩ hK
  by_cases hlt : i < l.length
  · have hc : decide ((i : Int) < (l.length : Nat)) = true := decide_eq_true (by omega)
    have ga : l[i]? = some l[i] := by simp [hlt]
    have hkl := hk _ (List.getElem_mem hlt)
    have hvl := hv _ (List.getElem_mem hlt)
    have hsn := rows1_snoc ga
    have hft := rows1_fit l i (by omega)
    have hac := hft.acks
    have hqu := hft.queue
    generalize l[i] = r at ga hkl hvl hsn
    have hK : Know s [(bd, dc (rows1 (l.take i)) ac qv sq rp), (b2, xc sub0 .nils .nils)] := hK
    generalize rows1 (l.take i) = x at hx hsn hft hac hqu hK
    have hpa := partsS_any w0 hL r.key hkl
    refine ⟨_, hK, ?_⟩; (conv => whnf); refine SIf.y Ty.mixed (by assumption) ?_; (conv => whnf)
    refine ⟨_, ⟨by first | omega | (simp only [List.length_cons, List.length_append, List.length_nil, List.length_map, length_aBytes, List.length_replicate, List.length_range]; omega) | fail, by exact get_map ga⟩, ?_⟩
    (conv => whnf); intro b7 hb7; (conv => whnf); refine SStore.on 0 rfl ?_; (conv => whnf); refine SLoad.on 0 rfl ?_; (conv => whnf); refine SCall.p (by exact hpa) ?_; (conv => whnf); refine SReg.fz 7 hb7 rfl rfl ?_
    refine SReg.meet (fun br => [(0, .slc 2 (l.map eRow) .no), (2, .ptr b2 0), (4, .ptr bd 0), (5, .mp m), (9, .int .u8 (parts r.key).t.toNat), (31, .slc 2 (l.map eRow) .no), (32, .int .i64 l.length), (33, .int .i64 i)]) (fun br => [(br, rd2 r.val (0, false)), (bd, dc { x with id := (parts r.key).id } ac qv (parts r.key).seq (.ptr br 0)), (b2, xc sub0 .nils .nils)])
      (fun br s1 => s.box br = none ∧ br ≠ bd ∧ s1 = (s.setBox br (rd2 r.val (0, false))).setBox bd (dc { x with id := (parts r.key).id } ac qv (parts r.key).seq (.ptr br 0))) ?_ ?_
    · refine SReg.fl 0 rfl [5, 6, 7] 8 [0, 1, 2, 3, 4, 9, 10, 11] [[12, 13, 14], [15]] [16, 17, 18] [0, 0, 0, 0, 0, 0, 0, 0, 2, 0, 0, 0, 2, 0, 0, 2, 0, 0, 2] (by decide +kernel) ?_
      (conv => whnf)
      repeat' (first | ((first | refine SIf.y Ty.mixed (by first | exact rfl | assumption | fail) ?_ | refine SIf.n Ty.mixed (by first | exact rfl | assumption | fail) ?_ | refine SCond.y (by first | exact rfl | assumption | fail) ?_ | refine SCond.n (by first | exact rfl | assumption | fail) ?_ | refine SPick.y (by first | exact rfl | assumption | fail) ?_ | refine SPick.n (by first | exact rfl | assumption | fail) ?_ | refine SPick.b ?_ | refine SPick.i ?_ | fail | refine SLoad.on 0 rfl ?_ | refine SLoad.on 1 rfl ?_ | refine SLoad.on 2 rfl ?_ | refine SLoad.on 3 rfl ?_ | refine SLoad.on 4 rfl ?_ | refine SLoad.on 5 rfl ?_ | refine SStore.on 0 rfl ?_ | refine SStore.on 1 rfl ?_ | refine SStore.on 2 rfl ?_ | refine SStore.on 3 rfl ?_ | refine SStore.on 4 rfl ?_ | refine SStore.on 5 rfl ?_ | refine SBox.b rfl ?_ | refine SCall.p (by first | exact hpa | fail) ?_ | fail | refine SApp.c rfl rfl (by first | assumption | exact Moves.more (by assumption) (by assumption) | fail) (by first | (simp only [length_aBytes, List.length_append, List.length_cons, List.length_nil, List.length_map, List.length_range]; omega) | omega | fail) fun tk1 σ1 hm => ?_ | refine SReg.t 0 [] (by decide +kernel) ?_ | refine And.intro (by first | omega | (simp only [List.length_cons, List.length_append, List.length_nil, List.length_map, length_aBytes, List.length_replicate, List.length_range]; omega) | fail) ?_ | refine ⟨_, ⟨by first | omega | (simp only [List.length_cons, List.length_append, List.length_nil, List.length_map, length_aBytes, List.length_replicate, List.length_range]; omega) | fail, by exact get_map ga⟩, ?_⟩ | refine ⟨_, toBytes_aBytes _, ?_⟩ | refine ⟨_, by repeat (first | exact toB_nil | apply toB_cons | apply toB_consC _ (by first | omega | (simp only [List.length_cons, List.length_append, List.length_nil, List.length_map, length_aBytes, List.length_replicate, List.length_range]; omega) | fail)), ?_⟩ | refine ⟨_, IntWalk.i64_in _ (by first | omega | (simp only [List.length_cons, List.length_append, List.length_nil, List.length_map, length_aBytes, List.length_replicate, List.length_range]; omega) | fail), ?_⟩ | refine ⟨_, wrap_u8 _, ?_⟩ | refine ⟨_, rfl, ?_⟩ | intro br hbr | fail); conv => whnf) | (refine And.intro ?_ ?_ <;> (conv => whnf)))
      all_goals
        have hb0 : s.box br = none ∧ br ≠ bd := by first | exact ⟨hbr, hx.ne hbr⟩ | exact box_none hbr | (simp only [setBox_setBox] at hbr; exact box_none hbr)
        have sc : ∀ (s : St) X Y, (s.setBox bd Y).setBox br X = (s.setBox br X).setBox bd Y := fun s X Y => setBox_comm (Ne.symm hb0.2)
        refine ⟨br, by repeat (first | exact trivial | refine ⟨by first | trivial | exact Weak.refl _ | exact Weak.tok _ _ _ | exact Weak.of_eq (congrArg (AV.int _) (by omega)) | exact Weak.of_eq (congrArg AV.bool (by fail)) | exact Weak.nils _ _ (.inr rfl), ?_⟩), .refl _, hb0.1, hb0.2, ?_⟩
        simp only [setBox_setBox, sc]; rfl
    · rintro br s1 ⟨hb0, hbd1, rfl⟩ hK1
      have hD := (hx.fresh hb0 (rd2 r.val (0, false))).own { x with id := (parts r.key).id } (parts r.key).seq (.ptr br 0) rfl rfl
      have hR : ((s.setBox br (rd2 r.val (0, false))).setBox bd (dc { x with id := (parts r.key).id } ac qv (parts r.key).seq (.ptr br 0))).box br = some (rd2 r.val (0, false)) := by rw [setBox_ne hbd1]; exact setBox_same
      have hτbr := le_none hx.le hb0
      have hadd : add1 x r = tell1 (parts r.key).t (parts r.key).seq r.val { x with id := (parts r.key).id } := rfl
      rcases look1 w0 (parts r.key).t bd with ⟨i0, f, hf, hfind, hdo⟩ | ⟨hfind, htell⟩
      · haveI := hf
        (conv => whnf); refine SMapGet.y rfl (hD.le.obj _ _ hτm) hfind ?_; (conv => whnf); refine SIf.y Ty.mixed (by exact rfl) ?_; (conv => whnf); refine SCall.w (hdo τ _ bd br _ ac qv ra rq _ r.val hvl (by show x.acks.length ≤ _; omega) (by show x.queue.length ≤ _; omega) hD hR hτbr hbd1 (hx.ra_ne hb0) (hx.rq_ne hb0)) rfl ?_; rintro r2 s2 ⟨rfl, ac', ra', qv', rq', hx'⟩ hB
        refine ⟨_, hx'.know hK2, ?_⟩; clear hB; (conv => whnf); refine ⟨_, IntWalk.i64_in _ (by omega), ?_⟩; (conv => whnf)
        refine ⟨(i + 1, ac', ra', qv', rq', (parts r.key).seq, .ptr br 0), by omega, by repeat (first | exact trivial | refine ⟨by first | trivial | exact Weak.refl _ | exact Weak.tok _ _ _ | exact Weak.of_eq (congrArg (AV.int _) (by omega)) | exact Weak.of_eq (congrArg AV.bool (by fail)) | exact Weak.nils _ _ (.inr rfl), ?_⟩), ?_, by omega, by rw [hsn, hadd]; exact hx'⟩
        show BSub [(bd, dc (rows1 (l.take (i + 1))) _ _ _ _), _] _
        rw [hsn, hadd]
        exact .refl _
      · (conv => whnf)
        refine SMapGet.n rfl (hD.le.obj _ _ hτm) hfind ?_; (conv => whnf); refine SIf.n Ty.mixed (by exact rfl) ?_; (conv => whnf); refine ⟨_, IntWalk.i64_in _ (by omega), ?_⟩; (conv => whnf)
        rw [htell] at hadd
        refine ⟨(i + 1, ac, ra, qv, rq, (parts r.key).seq, .ptr br 0), by omega, by repeat (first | exact trivial | refine ⟨by first | trivial | exact Weak.refl _ | exact Weak.tok _ _ _ | exact Weak.of_eq (congrArg (AV.int _) (by omega)) | exact Weak.of_eq (congrArg AV.bool (by fail)) | exact Weak.nils _ _ (.inr rfl), ?_⟩), ?_, by omega, by rw [hsn, hadd]; exact hD⟩
        show BSub [(bd, dc (rows1 (l.take (i + 1))) _ _ _ _), _] _
        rw [hsn, hadd]
        exact .drop (.refl _)
  · have hc : decide ((i : Int) < (l.length : Nat)) = false := decide_eq_false (by omega)
    have hge : i = l.length := by omega
    subst hge
    rw [List.take_length] at hx
    have hK : Know s [(bd, dc (rows1 (l.take l.length)) ac qv sq rp), (b2, xc sub0 .nils .nils)] := hK
    rw [List.take_length] at hK
    refine ⟨_, hK, ?_⟩; (conv => whnf); refine SIf.n Ty.mixed (by assumption) ?_; (conv => whnf)
    refine SCall.wK (fun hB => DAt.seal hx fun s1 h1 h2 => ((rising1_any w0 l .no (by omega)) s1).mono fun r s2 ⟨e1, e2⟩ => (⟨e1, by subst e2; exact h1, by subst e2; exact h2⟩ : r = AV.bool (upTo l l.length) ∧ St.Le τ s2 ∧ s2.box bd = some (dc (rows1 l) (eInts (rows1 l).acks) (eMsgs (rows1 l).queue) sq rp))) rfl ?_
    rintro rr s2 ⟨rfl, h1, h2⟩ hB
    have hbn : bd ∉ ([(b2, xc sub0 .nils .nils)] : BL).map (·.1) := by
      simp only [List.map_cons, List.map_nil, List.mem_singleton]
      exact hbb
    refine ⟨[(bd, dc (rows1 l) (eInts (rows1 l).acks) (eMsgs (rows1 l).queue) sq rp), (b2, xc sub0 .nils .nils)], (know_le hK2 h1).add h2 hbn, ?_⟩
    by_cases hu : upTo l l.length = true
    · rw [hu]
      by_cases he : enc1 (rows1 l) = l
      · have hd2 : (!decide (enc1 (rows1 l) = l)) = false := by rw [decide_eq_true he]; rfl
        have hlen2 : (enc1 (rows1 l)).length ≤ 1000000000 := by rw [he]; omega
        have hdec : dec1 l = (rows1 l, 0) := if_pos ⟨hu, he⟩
        rw [hdec]
        (conv => whnf); refine SCond.n (by exact rfl) ?_; (conv => whnf); refine SCond.n (by exact rfl) ?_; (conv => whnf); refine SCond.n (by exact rfl) ?_; (conv => whnf); refine SCond.n (by exact rfl) ?_; (conv => whnf); refine SLoad.on 0 rfl ?_; (conv => whnf); refine SCond.n (by exact rfl) ?_; (conv => whnf); refine SCall.p (by exact enc1_p w0 hL (rows1 l) hfits) ?_; (conv => whnf)
        refine SCond.n (by exact rfl) ?_; (conv => whnf); refine SCond.n (by exact rfl) ?_; (conv => whnf); refine SCall.p (by exact eqRows1_any w0 _ _ _ _ (by omega)) ?_; (conv => whnf); refine SCond.n (by exact rfl) ?_; (conv => whnf); refine SPick.n (by exact rfl) ?_; (conv => whnf); refine SIf.n Ty.mixed (by assumption) ?_; (conv => whnf); refine SLoad.on 0 rfl ?_; (conv => whnf)
        refine SStore.on 1 rfl ?_; (conv => whnf); refine SLoad.on 1 rfl ?_; (conv => whnf); exact .p (le_setBox (hσ _ h1) hb2') rfl
      · have hd2 : (!decide (enc1 (rows1 l) = l)) = true := by rw [decide_eq_false he]; rfl
        have hlen2 : (enc1 (rows1 l)).length ≤ 1000000000 := by have := enc1_len _ hfits; omega
        have hdec : dec1 l = (sub0, 11) := if_neg fun h => he h.2
        rw [hdec]
        (conv => whnf); refine SCond.n (by exact rfl) ?_; (conv => whnf); refine SCond.n (by exact rfl) ?_; (conv => whnf); refine SCond.n (by exact rfl) ?_; (conv => whnf); refine SCond.n (by exact rfl) ?_; (conv => whnf); refine SLoad.on 0 rfl ?_; (conv => whnf); refine SCond.n (by exact rfl) ?_; (conv => whnf); refine SCall.p (by exact enc1_p w0 hL (rows1 l) hfits) ?_; (conv => whnf)
        refine SCond.n (by exact rfl) ?_; (conv => whnf); refine SCond.n (by exact rfl) ?_; (conv => whnf); refine SCall.p (by exact eqRows1_any w0 _ _ _ _ (by omega)) ?_; (conv => whnf); refine SCond.n (by exact rfl) ?_; (conv => whnf); refine SPick.n (by exact rfl) ?_; (conv => whnf); refine SIf.y Ty.mixed (by assumption) ?_; (conv => whnf); refine SStore.on 1 rfl ?_; (conv => whnf)
        refine SLoad.on 1 rfl ?_; (conv => whnf); exact .v (le_setBox (hσ _ h1) hb2') weak_sub0
    · have hu' : upTo l l.length = false := by simpa using hu
      rw [hu']
      have hdec : dec1 l = (sub0, 11) := if_neg fun h => hu h.1
      rw [hdec]
      (conv => whnf); refine SCond.y (by exact rfl) ?_; (conv => whnf); refine SCond.y (by exact rfl) ?_; (conv => whnf); refine SCond.y (by exact rfl) ?_; (conv => whnf); refine SCond.y (by exact rfl) ?_; (conv => whnf); refine SCond.y (by exact rfl) ?_; (conv => whnf); refine SCond.y (by exact rfl) ?_; (conv => whnf); refine SCond.y (by exact rfl) ?_; (conv => whnf)
      refine SCond.y (by exact rfl) ?_; (conv => whnf); refine SPick.y (by exact rfl) ?_; (conv => whnf); refine SIf.y Ty.mixed (by exact rfl) ?_; (conv => whnf); refine SStore.on 1 rfl ?_; (conv => whnf); refine SLoad.on 1 rfl ?_; (conv => whnf); exact .v (le_setBox (hσ _ h1) hb2') weak_sub0
end Go.Proofs.YtkbmkhhcppfcnaaGreatDoor
end
section
set_option linter.unusedVariables false
set_option linter.unusedSimpArgs false
namespace Go.Proofs.YtkbmkhhcppfcnaaGreatDoor
open Go.Al
theorem dRows_app (l m : List Row) : ∀ i, i ≤ l.length → dRows (l ++ m) i = dRows l i
  | 0, _ => rfl
  | i + 1, h => by
    rw [dRows, dRows, dRows_app l m i (by omega), List.getElem?_append_left (by omega), List.getElem?_append_left (by omega)]
theorem dRows_snoc (l : List Row) (r : Row) (h : Up (l ++ [r])) : dRows (l ++ [r]) (l ++ [r]).length = { (dRow (dRows l l.length) r).1 with good := (dRows l l.length).good && (dRow (dRows l l.length) r).2.isNone } := by
  have hl : (l ++ [r]).length = l.length + 1 := by simp
  rw [hl, dRows, dRows_app l [r] _ (Nat.le_refl _)]
  have hr : (l ++ [r])[l.length]? = some r := by simp
  rw [hr, dStep]
  have hg : (decide (l.length = 0) || gtS r.key (((l ++ [r])[l.length - 1]?).getD ⟨[], []⟩).key) = true := by
    by_cases h0 : l.length = 0
    · simp [h0]
    · obtain ⟨j, hj⟩ : ∃ j, l.length = j + 1 := ⟨l.length - 1, by omega⟩
      have h1 : (l ++ [r])[j]? = some (l[j]'(by omega)) := by rw [List.getElem?_append_left (by omega)]; simp
      have h2 := h.get h1 (by rw [← hj]; exact hr)
      rw [show l.length - 1 = j by omega, h1]
      simp [gtS_of h2]
  rw [show (((some r : Option Row)).getD ⟨[], []⟩) = r from rfl, hg]
  simp
def diffs (lo : Int) : List Int → List Int
  | [] => []
  | a :: l => ((clampN (w64 (a - lo)) : Nat) : Int) :: diffs a l
theorem rGaps_at {v : List UInt8} : ∀ (l : List Int) (lo : Int) (a : Nat) (acc : List Int) (rest : List UInt8), At v a (gapsB lo l ++ rest) → rGaps v l.length a none acc = (acc ++ diffs lo l, none)
  | [], lo, a, acc, rest, h => by simp [rGaps, diffs]
  | b :: l, lo, a, acc, rest, h => by
    rw [gapsB, List.append_assoc] at h
    obtain ⟨h1, h2⟩ := rNum_at h
    rw [List.length_cons, rGaps, if_pos rfl, h1]
    dsimp only
    rw [rGaps_at l b _ _ rest h2, diffs, List.append_assoc]; rfl
theorem runUp_diffs : ∀ (l : List Int) (lo : Int) (n : Nat), 0 ≤ lo → Rise lo l → (∀ a ∈ l, a < n) → n ≤ 9007199254740992 → runUp lo (diffs lo l) = l
  | [], _, _, _, _, _, _ => rfl
  | a :: l, lo, n, h0, h, hh, hn => by
    have h1 := h.1
    have h2 := hh a (by simp)
    have h3 : w64 (a - lo) = a - lo := Go.IntWalk.i64_in _ (by omega)
    have h4 : ((clampN (a - lo) : Nat) : Int) = a - lo := clampN_53 ⟨by omega, by omega⟩
    have h5 : w64 (lo + (a - lo)) = a := by rw [show lo + (a - lo) = a by omega]; exact Go.IntWalk.i64_in _ (by omega)
    rw [diffs, runUp, h3, h4, h5, runUp_diffs l a n (by omega) h.2 (fun x hx => hh x (by simp [hx])) hn]
theorem at_self (v : List UInt8) : At v 0 (v ++ []) := by rw [List.append_nil]; exact at_start v
theorem death_whole {c mo le : Int} {m : Msg} (h : MsgOk c mo le m) : decide ((0 : Int) < ((clampN (deathN m) : Nat) : Int)) = m.dead ∧ whyN (min (clampN (deathN m)) 2) = m.why := by
  rcases h.st with ⟨h1, h2, _⟩ | ⟨h1, h2, _⟩ | ⟨h1, _, _, h2⟩
  · have e : deathN m = 0 := by rw [deathN, if_pos h1]
    rw [e, h1, h2]; exact ⟨by decide, by decide⟩
  · have e : deathN m = 0 := by rw [deathN, if_pos h1]
    rw [e, h1, h2]; exact ⟨by decide, by decide⟩
  · rcases h2 with h2 | h2
    · have e : deathN m = 1 := by rw [deathN, if_neg (by rw [h1]; decide), if_pos h2]
      rw [e, h1, h2]; exact ⟨by decide, by decide⟩
    · have e : deathN m = 2 := by rw [deathN, if_neg (by rw [h1]; decide), if_neg (by rw [h2]; decide)]
      rw [e, h1, h2]; exact ⟨by decide, by decide⟩
structure MsgFit (m : Msg) : Prop where
  tries : n53 m.tries
  until_ : n53 m.until_
  prio : n53 m.prio
theorem MsgOk.fit {c mo le : Int} {m : Msg} (h : MsgOk c mo le m) (hc : 0 ≤ c ∧ c ≤ 1000000000000000) (hm : 1 ≤ mo ∧ mo ≤ 9) (hl : 1 ≤ le ∧ le ≤ 1000) : MsgFit m := by
  have hp := h.prio
  rcases h.st with ⟨h1, h2, h3, h4⟩ | ⟨h1, h2, h3, h4⟩ | ⟨h1, h3, h4, h2⟩ <;> exact ⟨⟨by omega, by omega⟩, ⟨by omega, by omega⟩, ⟨by omega, by omega⟩⟩
theorem rMsg_back {c mo le : Int} {m : Msg} (h : MsgOk c mo le m) (hf : MsgFit m) : rMsg m.seq (msgB m) 0 none = (m, (msgB m).length, none) := by
  have h0 := at_self (msgB m)
  have e : msgB m ++ [] = txt m.body ++ (txt m.attr ++ (num m.tries ++ (num m.until_ ++ (num m.prio ++ (num (deathN m) ++ []))))) := by simp [msgB]
  rw [e] at h0
  obtain ⟨r1, h1⟩ := rText_at h0 h.body (by decide)
  obtain ⟨r2, h2⟩ := rText_at h1 h.alen (by decide)
  obtain ⟨r3, h3⟩ := rNum_at h2
  obtain ⟨r4, h4⟩ := rNum_at h3
  obtain ⟨r5, h5⟩ := rNum_at h4
  obtain ⟨r6, h6⟩ := rNum_at h5
  obtain ⟨d1, d2⟩ := death_whole h
  simp only [rMsg, r1, r2, r3, r4, r5, r6]
  rw [clampN_53 hf.tries, clampN_53 hf.until_, clampN_53 hf.prio, d1, d2]
  refine Prod.ext rfl (Prod.ext ?_ rfl)
  simp [msgB]; omega
theorem rSub_back {id clock next : Nat} {x : Sub} (h : Grown id clock next x) (hn : next ≤ 1000000000) (y : Sub) : rSub y (subB x) = ({ y with name := x.name, topic := x.topic, want := x.want, lease := x.lease, most := x.most, floor := x.floor, note := x.note }, none) := by
  have h0 := at_self (subB x)
  have e : subB x ++ [] = txt x.name ++ (txt x.topic ++ (txt x.want ++ (num x.lease ++ (num x.most ++ (num x.floor ++ (txt x.note ++ [])))))) := by simp [subB]
  rw [e] at h0
  have hm := h.most
  have hl := h.lease
  have hf := h.floor
  obtain ⟨r1, h1⟩ := rText_at h0 (show x.name.length ≤ 30 by have := h.nlen; omega) (by decide)
  obtain ⟨r2, h2⟩ := rText_at h1 h.topic.len (by decide)
  obtain ⟨r3, h3⟩ := rText_at h2 h.want.len (by decide)
  obtain ⟨r4, h4⟩ := rNum_at h3
  obtain ⟨r5, h5⟩ := rNum_at h4
  obtain ⟨r6, h6⟩ := rNum_at h5
  obtain ⟨r7, h7⟩ := rText_at h6 h.note (by decide)
  simp only [rSub, r1, r2, r3, r4, r5, r6, r7]
  rw [clampN_53 (n := x.lease) ⟨by omega, by omega⟩, clampN_53 (n := x.most) ⟨by omega, by omega⟩, clampN_53 (n := x.floor) ⟨by omega, by omega⟩]
theorem up_take {l m : List Row} (h : Up (l ++ m)) : Up l := (List.pairwise_append.1 h).1
theorem dRows_back {id clock next : Nat} {x : Sub} (h : Grown id clock next x) (hc : clock ≤ 1000000000) (hid : id ≤ 1000000000) (hn : next ≤ 1000000000) : dRows (enc3 x) (enc3 x).length = ⟨{ x with acks := [] }, diffs x.floor x.acks, true⟩ := by
  have hup := enc3_up h (by omega)
  have hcl : ((cl x.id : Nat) : Int) = x.id := cl_nn (by have := h.id; omega)
  -- the acknowledgements' row
  have h1 : dRows (preR x) (preR x).length = ⟨{ sub0 with id := if x.acks = [] then 0 else x.id }, diffs x.floor x.acks, true⟩ := by
    unfold preR
    split
    · rename_i h0; rw [h0]; rfl
    · have := dRows_snoc [] ⟨rkey 3 97 x.id 0, acksB x⟩ (.cons (by simp) .nil)
      rw [List.nil_append] at this
      rw [this, dRow]
      dsimp only
      rw [parts_rkey (by decide) (by decide)]
      dsimp only
      rw [if_pos rfl]
      have ha : At (acksB x) 0 (num x.acks.length ++ (gapsB x.floor x.acks ++ [])) := by rw [List.append_nil]; exact at_start _
      obtain ⟨r1, k1⟩ := rNum_at ha
      have hcn : clampN (x.acks.length : Int) = x.acks.length := by have := h.nacks; unfold clampN; omega
      rw [r1, hcn]
      dsimp only
      rw [rGaps_at x.acks x.floor _ _ [] k1, hcl]
      rfl
  -- the queue's rows
  have h2 : ∀ j, j ≤ x.queue.length → ∃ i, dRows (preR x ++ (x.queue.take j).map (msgRow x.id)) (preR x ++ (x.queue.take j).map (msgRow x.id)).length = ⟨{ sub0 with id := i, queue := x.queue.take j }, diffs x.floor x.acks, true⟩ := by
    intro j
    induction j with
    | zero =>
      intro _
      refine ⟨if x.acks = [] then 0 else x.id, ?_⟩
      rw [List.take_zero, List.map_nil, List.append_nil, h1]
      rfl
    | succ j ih =>
      intro hj
      obtain ⟨i, hi⟩ := ih (by omega)
      have hq : x.queue.take (j + 1) = x.queue.take j ++ [x.queue[j]] := take_snoc (by simp [show j < x.queue.length by omega])
      have hm : x.queue[j] ∈ x.queue := List.getElem_mem _
      have hsp : x.queue = (x.queue.take j ++ [x.queue[j]]) ++ x.queue.drop (j + 1) := by rw [← hq, List.take_append_drop]
      generalize x.queue[j] = m at hq hm hsp
      generalize x.queue.drop (j + 1) = r at hsp
      rw [hq]
      generalize x.queue.take j = q at hi hq hsp
      have hok := h.msgs m hm
      have hsq : ((cl m.seq : Nat) : Int) = m.seq := by
        have h1 := h.qhigh m hm
        have h2 := h.qrise.lt m.seq (List.mem_map.2 ⟨m, hm, rfl⟩)
        have h3 := h.floor
        exact cl_nn ⟨by omega, by omega⟩
      have hupq : Up ((preR x ++ q.map (msgRow x.id)) ++ [msgRow x.id m]) := by
        have e : enc3 x = ((preR x ++ q.map (msgRow x.id)) ++ [msgRow x.id m]) ++ (r.map (msgRow x.id) ++ [⟨rkey 3 115 x.id 0, subB x⟩]) := by
          rw [enc3_eq]
          conv => lhs; rw [hsp]
          simp
        rw [e] at hup
        exact up_take hup
      refine ⟨x.id, ?_⟩
      have e2 : preR x ++ (q ++ [m]).map (msgRow x.id) = (preR x ++ q.map (msgRow x.id)) ++ [msgRow x.id m] := by simp
      have hp : parts (msgRow x.id m).key = ⟨3, 113, x.id, m.seq, true⟩ := by
        have := parts_rkey (v := 3) (by decide) (t := 113) (by decide) x.id m.seq
        rw [hcl, hsq] at this
        exact this
      have hmm := rMsg_back hok (hok.fit ⟨by omega, by omega⟩ h.most h.lease)
      have hstep : ∀ d : D3, dRow d (msgRow x.id m) = (⟨{ d.x with id := x.id, queue := d.x.queue ++ [m] }, d.gaps, d.good⟩, none) := fun d => by
        unfold dRow
        rw [hp]
        dsimp only
        rw [if_neg (show ¬ (113 : UInt8) = 97 by decide), if_pos rfl, show (msgRow x.id m).val = msgB m from rfl, hmm]
      rw [e2, dRows_snoc _ _ hupq, hi, hstep]
      rfl
  obtain ⟨i, hi⟩ := h2 x.queue.length (Nat.le_refl _)
  rw [List.take_length] at hi
  have hup' : Up ((preR x ++ x.queue.map (msgRow x.id)) ++ [⟨rkey 3 115 x.id 0, subB x⟩]) := by rw [← enc3_eq]; exact hup
  have hp : parts (rkey 3 115 x.id 0) = ⟨3, 115, x.id, 0, true⟩ := by
    have := parts_rkey (v := 3) (by decide) (t := 115) (by decide) x.id 0
    rw [hcl] at this
    exact this
  have hstep : ∀ d : D3, dRow d ⟨rkey 3 115 x.id 0, subB x⟩ = (⟨{ d.x with id := x.id, name := x.name, topic := x.topic, want := x.want, lease := x.lease, most := x.most, floor := x.floor, note := x.note }, d.gaps, d.good⟩, none) := fun d => by
    unfold dRow
    dsimp only
    rw [hp]
    dsimp only
    rw [if_neg (show ¬ (115 : UInt8) = 97 by decide), if_neg (show ¬ (115 : UInt8) = 113 by decide), if_pos rfl, rSub_back h hn]
  rw [enc3_eq, dRows_snoc _ _ hup', hi, hstep]
  rfl
theorem dec3_back {id clock next : Nat} {x : Sub} (h : Grown id clock next x) (hc : clock ≤ 1000000000) (hid : id ≤ 1000000000) (hn : next ≤ 1000000000) : dec3 (enc3 x) = (x, 0) := by
  have hr := dRows_back h hc hid hn
  have hs : dSub (enc3 x) = x := by
    rw [dSub, hr]
    dsimp only
    rw [runUp_diffs x.acks x.floor next h.floor.1 h.rise h.high (by omega)]
  rw [dec3, hs, hr, if_pos ⟨rfl, rfl⟩]
end Go.Proofs.YtkbmkhhcppfcnaaGreatDoor
end
section
set_option linter.unusedVariables false
set_option linter.unusedSimpArgs false
namespace Go.Proofs.YtkbmkhhcppfcnaaGreatDoor
open Go.Al
structure MsgG (m : Msg) : Prop where
  body : m.body.length ≤ 60
  attr : m.attr.length ≤ 30
  fit : MsgFit m
  dead : decide (((clampN (deadN m) : Nat) : Int) = 1) = m.dead
  why : whyN (min (clampN (deathN m)) 2) = m.why
  calm : m.dead = false → m.why = []
structure Good2 (x : Sub) : Prop where
  name : x.name.length ≤ 30
  topic : x.topic.length ≤ 30
  want : x.want.length ≤ 30
  note : x.note.length ≤ 30
  id : 0 ≤ x.id ∧ x.id ≤ 9999999999
  lease : n53 x.lease
  most : n53 x.most
  floor : n53 x.floor
  nacks : x.acks.length ≤ 100000
  rise : Rise x.floor x.acks
  high : ∀ a ∈ x.acks, a < (9999999999 : Nat)
  qrise : Rise x.floor (x.queue.map Msg.seq)
  qhigh : ∀ m ∈ x.queue, m.seq ≤ 9999999999
  msgs : ∀ m ∈ x.queue, MsgG m
theorem Grown.good2 {id clock next : Nat} {x : Sub} (h : Grown id clock next x) (hc : clock ≤ 1000000000) (hid : id ≤ 1000000000) (hn : next ≤ 1000000000) : Good2 x := by
  have h1 := h.id
  have h2 := h.lease
  have h3 := h.most
  have h4 := h.floor
  refine ⟨by have := h.nlen; omega, h.topic.len, h.want.len, h.note, by omega, ⟨by omega, by omega⟩, ⟨by omega, by omega⟩, ⟨by omega, by omega⟩, by have := h.nacks; omega, h.rise, fun a ha => by have := h.high a ha; omega, h.qrise, fun m hm => by have := h.qhigh m hm; omega, fun m hm => ?_⟩
  have hm := h.msgs m hm
  refine ⟨hm.body, hm.alen, hm.fit ⟨by omega, by omega⟩ h.most h.lease, ?_, (death_whole hm).2, fun hd => ?_⟩
  · unfold deadN
    cases m.dead <;> decide
  · rcases hm.st with ⟨_, h2, _⟩ | ⟨_, h2, _⟩ | ⟨h1, _⟩
    · exact h2
    · exact h2
    · rw [hd] at h1; cases h1
theorem n2_at {v : List UInt8} {a : Nat} {n : Int} {r : List UInt8} (h : At v a (num n ++ r)) : n2 v (a, false) = (clampN n, a + (num n).length, false) ∧ At v (a + (num n).length) r := by
  obtain ⟨g1, gp2⟩ := getNum_at h
  refine ⟨?_, gp2⟩
  rw [n2, g1, if_neg (by simp)]
theorem t2_at {v : List UInt8} {a most : Nat} {s : List UInt8} {r : List UInt8} (h : At v a (txt s ++ r)) (hs : s.length ≤ most) (hm : most ≤ 9007199254740992) : t2 v (a, false) most = (s, a + (txt s).length, false) ∧ At v (a + (txt s).length) r := by
  obtain ⟨g1, gp2⟩ := getText_at h hs hm
  refine ⟨?_, gp2⟩
  rw [t2, g1, if_neg (by simp)]
theorem g2_at {v : List UInt8} : ∀ (l : List Int) (lo : Int) (a : Nat) (acc : List Int) (rest : List UInt8), At v a (gapsB lo l ++ rest) → (gp2 v l.length (a, false) acc).1 = acc ++ diffs lo l
  | [], lo, a, acc, rest, h => by simp [gp2, diffs]
  | b :: l, lo, a, acc, rest, h => by
    rw [gapsB, List.append_assoc] at h
    obtain ⟨h1, h2⟩ := n2_at h
    rw [List.length_cons, gp2, if_neg (by simp), h1]
    dsimp only
    rw [g2_at l b _ _ rest h2, diffs, List.append_assoc]; rfl
theorem updF_past {s : Int} {f : Msg → Msg} : ∀ {l : List Msg} (r : List Msg), (∀ m ∈ l, m.seq ≠ s) → updF s f (l ++ r) = l ++ updF s f r
  | [], r, _ => rfl
  | m :: l, r, h => by
    rw [List.cons_append, updF, if_neg (h m (by simp)), updF_past r fun x hx => h x (by simp [hx])]; rfl
theorem seg_back (rows : Msg → List Row) (h h' : Msg → Msg) (f : Msg → Msg → Msg) (id : Int) : ∀ (q pre : List Msg) (y : Sub),
    (∀ m ∈ q, rows m = [] ∧ h m = h' m ∨ ∃ r, rows m = [r] ∧ (∀ z : Sub, add2 z r = { z with id := id, queue := updF m.seq (f m) z.queue }) ∧ f m (h m) = h' m) →
    (∀ m ∈ q, (h m).seq = m.seq ∧ (h' m).seq = m.seq) → (∀ a ∈ pre, ∀ m ∈ q, a.seq ≠ m.seq) → (q.map Msg.seq).Pairwise (· ≠ ·) → y.queue = pre ++ q.map h →
    ∃ i, (i = y.id ∨ i = id) ∧ (q.flatMap rows).foldl add2 y = { y with id := i, queue := pre ++ q.map h' }
  | [], pre, y, _, _, _, _, hy => ⟨y.id, .inl rfl, by cases y; simp at hy; simp [hy]⟩
  | m :: q, pre, y, hr, hs, hp, hd, hy => by
    have hm := hs m (by simp)
    have hne : ∀ a ∈ q, m.seq ≠ a.seq := fun a ha => by
      rw [List.map_cons, List.pairwise_cons] at hd
      exact hd.1 _ (List.mem_map.2 ⟨a, ha, rfl⟩)
    have hpre : ∀ a ∈ pre ++ [h' m], ∀ b ∈ q, a.seq ≠ b.seq := fun a ha b hb => by
      rcases List.mem_append.1 ha with ha | ha
      · exact hp a ha b (by simp [hb])
      · obtain rfl := List.mem_singleton.1 ha
        rw [hm.2]; exact hne b hb
    have hd' : (q.map Msg.seq).Pairwise (· ≠ ·) := by
      rw [List.map_cons, List.pairwise_cons] at hd; exact hd.2
    rw [List.flatMap_cons, List.foldl_append]
    rcases hr m (by simp) with ⟨h1, h2⟩ | ⟨r, h1, h2, h3⟩
    · rw [h1, List.foldl_nil]
      obtain ⟨i, hi, e⟩ := seg_back rows h h' f id q (pre ++ [h' m]) y (fun a ha => hr a (by simp [ha])) (fun a ha => hs a (by simp [ha])) hpre hd' (by rw [hy, h2.symm]; simp)
      exact ⟨i, hi, by rw [e]; simp⟩
    · rw [h1, List.foldl_cons, List.foldl_nil, h2 y]
      have hu : updF m.seq (f m) y.queue = (pre ++ [h' m]) ++ q.map h := by
        rw [hy, updF_past _ fun a ha => hp a ha m (by simp), List.map_cons, updF, if_pos hm.1, h3]; simp
      obtain ⟨i, hi, e⟩ := seg_back rows h h' f id q (pre ++ [h' m]) { y with id := id, queue := updF m.seq (f m) y.queue } (fun a ha => hr a (by simp [ha])) (fun a ha => hs a (by simp [ha])) hpre hd' hu
      refine ⟨i, .inr (by rcases hi with hi | hi <;> exact hi), by rw [e]; simp⟩
theorem Rise.apart : ∀ {l : List Int} {lo : Int}, Rise lo l → l.Pairwise (· ≠ ·)
  | [], _, _ => .nil
  | a :: l, lo, h => .cons (fun b hb => by have := h.2.lt b hb; omega) h.2.apart
def hb2 (m : Msg) : Msg := { msg0 m.seq with body := m.body }
def hq2 (m : Msg) : Msg := { m with prio := 0, why := [] }
theorem mB_at {m : Msg} (h : MsgG m) (z : Msg) : mB (txt m.body) z = { z with body := m.body } := by
  have h0 := at_self (txt m.body)
  rw [mB, (t2_at h0 h.body (by decide)).1]
theorem mQ_at {m : Msg} (h : MsgG m) (z : Msg) : mQ (qB2 m) z = { z with attr := m.attr, tries := m.tries, until_ := m.until_, dead := m.dead } := by
  have h0 := at_self (qB2 m)
  have e : qB2 m ++ [] = txt m.attr ++ (num m.tries ++ (num m.until_ ++ (num (deadN m) ++ []))) := by simp [qB2]
  rw [e] at h0
  obtain ⟨r1, h1⟩ := t2_at h0 h.attr (by decide)
  obtain ⟨r2, h2⟩ := n2_at h1
  obtain ⟨r3, h3⟩ := n2_at h2
  obtain ⟨r4, h4⟩ := n2_at h3
  simp only [mQ, r1, r2, r3, r4]
  rw [clampN_53 h.fit.tries, clampN_53 h.fit.until_, h.dead]
theorem mX_at {m : Msg} (h : MsgG m) (z : Msg) : mX (xB m) z = { z with prio := m.prio, why := m.why } := by
  have h0 := at_self (xB m)
  have e : xB m ++ [] = num m.prio ++ (num (deathN m) ++ []) := by simp [xB]
  rw [e] at h0
  obtain ⟨r1, h1⟩ := n2_at h0
  obtain ⟨r2, h2⟩ := n2_at h1
  simp only [mX, r1, r2]
  rw [clampN_53 h.fit.prio, h.why]
theorem sS_at {x : Sub} (h : Good2 x) (y : Sub) : sS (sB2 x) y = { y with name := x.name, topic := x.topic, want := x.want, lease := x.lease, most := x.most, floor := x.floor } := by
  have h0 := at_self (sB2 x)
  have e : sB2 x ++ [] = txt x.name ++ (txt x.topic ++ (txt x.want ++ (num x.lease ++ (num x.most ++ (num x.floor ++ []))))) := by simp [sB2]
  rw [e] at h0
  obtain ⟨r1, h1⟩ := t2_at h0 h.name (by decide)
  obtain ⟨r2, h2⟩ := t2_at h1 h.topic (by decide)
  obtain ⟨r3, h3⟩ := t2_at h2 h.want (by decide)
  obtain ⟨r4, h4⟩ := n2_at h3
  obtain ⟨r5, h5⟩ := n2_at h4
  obtain ⟨r6, h6⟩ := n2_at h5
  simp only [sS, r1, r2, r3, r4, r5, r6]
  rw [clampN_53 h.lease, clampN_53 h.most, clampN_53 h.floor]
theorem parts2 {t : UInt8} (ht : 97 ≤ t.toNat ∧ t.toNat ≤ 122) {id seq : Int} (h1 : 0 ≤ id ∧ id ≤ 9999999999) (h2 : 0 ≤ seq ∧ seq ≤ 9999999999) : parts (rkey 2 t id seq) = ⟨2, t, id, seq, true⟩ := by
  have := parts_rkey (v := 2) (by decide) ht id seq
  rw [cl_nn h1, cl_nn h2] at this
  exact this
theorem flat1 {α β : Type} (f : α → β) : ∀ l : List α, l.map f = l.flatMap fun a => [f a]
  | [] => rfl
  | a :: l => by rw [List.map_cons, flat1 f l]; rfl
theorem rows2_back {x : Sub} (h : Good2 x) : rows2 (enc2 x) = { x with acks := diffs x.floor x.acks } := by
  have hseq : ∀ m ∈ x.queue, 0 ≤ m.seq ∧ m.seq ≤ 9999999999 := fun m hm => by
    have h1 := h.qhigh m hm
    have h2 := h.qrise.lt m.seq (List.mem_map.2 ⟨m, hm, rfl⟩)
    have h3 := h.floor
    exact ⟨by have := h3.1; omega, h1⟩
  have hap := h.qrise.apart
  have h0 : (0 : Int) ≤ 0 ∧ (0 : Int) ≤ 9999999999 := by omega
  -- acknowledgements
  have s1 : ∃ i, (ack2 x).foldl add2 sub0 = { sub0 with id := i, acks := diffs x.floor x.acks } := by
    unfold ack2
    split
    · rename_i he; exact ⟨0, by rw [he]; rfl⟩
    · refine ⟨x.id, ?_⟩
      rw [List.foldl_cons, List.foldl_nil, add2]
      dsimp only
      rw [parts2 (by decide) h.id h0]
      dsimp only
      rw [if_pos rfl]
      have ha : At (acksB x) 0 (num x.acks.length ++ (gapsB x.floor x.acks ++ [])) := by rw [List.append_nil]; exact at_start _
      obtain ⟨r1, k1⟩ := n2_at ha
      have hcn : clampN (x.acks.length : Int) = x.acks.length := by have := h.nacks; unfold clampN; omega
      rw [r1, hcn]
      dsimp only
      rw [g2_at x.acks x.floor _ _ [] k1]
      rfl
  -- bodies
  have s2' : ∀ (q pre : List Msg) (y : Sub), (∀ m ∈ q, m ∈ x.queue) → (∀ a ∈ pre, ∀ m ∈ q, a.seq ≠ m.seq) → (q.map Msg.seq).Pairwise (· ≠ ·) → y.queue = pre → ∃ i, (q.map (b2 x.id)).foldl add2 y = { y with id := i, queue := pre ++ q.map hb2 } := by
    intro q
    induction q with
    | nil => intro pre y _ _ _ hy; exact ⟨y.id, by cases y; simp at hy; simp [hy]⟩
    | cons m q ih =>
      intro pre y hq hp hd hy
      rw [List.map_cons, List.pairwise_cons] at hd
      rw [List.map_cons, List.foldl_cons]
      have hm := h.msgs m (hq m (by simp))
      have e : add2 y (b2 x.id m) = { y with id := x.id, queue := pre ++ [hb2 m] } := by
        rw [add2]
        dsimp only
        rw [show (b2 x.id m).key = rkey 2 98 x.id m.seq from rfl, parts2 (by decide) h.id (hseq m (hq m (by simp)))]
        dsimp only
        rw [if_neg (show ¬ (98 : UInt8) = 97 by decide), if_pos rfl, hy, updF_past _ fun a ha => hp a ha m (by simp), updF, if_pos (show (msg0 m.seq).seq = m.seq from rfl), show (b2 x.id m).val = txt m.body from rfl, mB_at hm]
        rfl
      rw [e]
      obtain ⟨i, hi⟩ := ih (pre ++ [hb2 m]) { y with id := x.id, queue := pre ++ [hb2 m] } (fun a ha => hq a (by simp [ha])) (fun a ha b hb => by
        rcases List.mem_append.1 ha with ha | ha
        · exact hp a ha b (by simp [hb])
        · obtain rfl := List.mem_singleton.1 ha
          exact hd.1 _ (List.mem_map.2 ⟨b, hb, rfl⟩)) hd.2 rfl
      exact ⟨i, by rw [hi]; simp⟩
  have s3 : ∀ y : Sub, y.note = [] → ∃ i, (note2 x).foldl add2 y = { y with id := i, note := x.note } := by
    intro y hy
    unfold note2
    split
    · rename_i he; exact ⟨y.id, by cases y; simp at hy; simp [hy, he]⟩
    · refine ⟨x.id, ?_⟩
      rw [List.foldl_cons, List.foldl_nil, add2]
      dsimp only
      rw [parts2 (by decide) h.id h0]
      dsimp only
      rw [if_neg (show ¬ (110 : UInt8) = 97 by decide), if_neg (show ¬ (110 : UInt8) = 98 by decide), if_pos rfl, (t2_at (at_self (txt x.note)) h.note (by decide)).1]
  have s4 := fun (y : Sub) (hy : y.queue = [] ++ x.queue.map hb2) => seg_back (fun m => [q2 x.id m]) hb2 hq2 (fun m => mQ (qB2 m)) x.id x.queue [] y (fun m hm => .inr ⟨q2 x.id m, rfl, fun z => by
      rw [add2]
      dsimp only
      rw [show (q2 x.id m).key = rkey 2 113 x.id m.seq from rfl, parts2 (by decide) h.id (hseq m hm)]
      dsimp only
      rw [if_neg (show ¬ (113 : UInt8) = 97 by decide), if_neg (show ¬ (113 : UInt8) = 98 by decide), if_neg (show ¬ (113 : UInt8) = 110 by decide), if_pos rfl]
      rfl, by rw [mQ_at (h.msgs m hm)]; rfl⟩) (fun m _ => ⟨rfl, rfl⟩) (by simp) hap hy
  have s5 : ∀ y : Sub, [s2 x].foldl add2 y = { y with id := x.id, name := x.name, topic := x.topic, want := x.want, lease := x.lease, most := x.most, floor := x.floor } := by
    intro y
    rw [List.foldl_cons, List.foldl_nil, add2]
    dsimp only
    rw [show (s2 x).key = rkey 2 115 x.id 0 from rfl, parts2 (by decide) h.id h0]
    dsimp only
    rw [if_neg (show ¬ (115 : UInt8) = 97 by decide), if_neg (show ¬ (115 : UInt8) = 98 by decide), if_neg (show ¬ (115 : UInt8) = 110 by decide), if_neg (show ¬ (115 : UInt8) = 113 by decide), if_pos rfl, show (s2 x).val = sB2 x from rfl, sS_at h]
  have s6 := fun (y : Sub) (hy : y.queue = [] ++ x.queue.map hq2) => seg_back (x2 x.id) hq2 id (fun m => mX (xB m)) x.id x.queue [] y (fun m hm => by
    unfold x2
    split
    · refine .inr ⟨_, rfl, fun z => ?_, ?_⟩
      · rw [add2]
        dsimp only
        rw [parts2 (by decide) h.id (hseq m hm)]
        dsimp only
        rw [if_neg (show ¬ (120 : UInt8) = 97 by decide), if_neg (show ¬ (120 : UInt8) = 98 by decide), if_neg (show ¬ (120 : UInt8) = 110 by decide), if_neg (show ¬ (120 : UInt8) = 113 by decide), if_neg (show ¬ (120 : UInt8) = 115 by decide), if_pos rfl]
      · rw [mX_at (h.msgs m hm)]; rfl
    · rename_i hn
      refine .inl ⟨rfl, ?_⟩
      have hp : m.prio = 0 := by
        by_cases hp : m.prio = 0
        · exact hp
        · exact absurd (.inl hp) hn
      have hd : m.dead = false := by
        cases hd : m.dead
        · rfl
        · exact absurd (.inr hd) hn
      have hw := (h.msgs m hm).calm hd
      cases m; simp at hp hw; simp [hq2, hp, hw]) (fun m _ => ⟨rfl, rfl⟩) (by simp) hap hy
  unfold rows2 enc2
  rw [List.foldl_append, List.foldl_append, List.foldl_append, List.foldl_append, List.foldl_append]
  obtain ⟨i1, e1⟩ := s1
  obtain ⟨i2, e2⟩ := s2' x.queue [] _ (fun _ h => h) (by simp) hap (show ((ack2 x).foldl add2 sub0).queue = [] by rw [e1]; rfl)
  obtain ⟨i3, e3⟩ := s3 _ (show ((x.queue.map (b2 x.id)).foldl add2 ((ack2 x).foldl add2 sub0)).note = [] by rw [e2, e1]; rfl)
  rw [flat1 (q2 x.id)]
  obtain ⟨i4, h4, e4⟩ := s4 _ (show ((note2 x).foldl add2 ((x.queue.map (b2 x.id)).foldl add2 ((ack2 x).foldl add2 sub0))).queue = [] ++ x.queue.map hb2 by rw [e3, e2])
  obtain ⟨i5, h5, e5⟩ := s6 _ (show ([s2 x].foldl add2 ((x.queue.flatMap fun m => [q2 x.id m]).foldl add2 ((note2 x).foldl add2 ((x.queue.map (b2 x.id)).foldl add2 ((ack2 x).foldl add2 sub0))))).queue = [] ++ x.queue.map hq2 by rw [s5, e4])
  have h6 : i5 = x.id := by
    rcases h5 with h | h
    · rw [h, s5]
    · exact h
  rw [e5, h6, s5, e4, e3, e2, e1]
  simp [sub0]
end Go.Proofs.YtkbmkhhcppfcnaaGreatDoor
end
section
set_option linter.unusedVariables false
set_option linter.unusedSimpArgs false
namespace Go.Proofs.YtkbmkhhcppfcnaaGreatDoor
open Go.Al
theorem parts1 {t : UInt8} (ht : 97 ≤ t.toNat ∧ t.toNat ≤ 122) {id seq : Int} (h1 : 0 ≤ id ∧ id ≤ 9999999999) (h2 : 0 ≤ seq ∧ seq ≤ 9999999999) : parts (rkey 1 t id seq) = ⟨1, t, id, seq, true⟩ := by
  have := parts_rkey (v := 1) (by decide) ht id seq
  rw [cl_nn h1, cl_nn h2] at this
  exact this
theorem add1_at {t : UInt8} (ht : 97 ≤ t.toNat ∧ t.toNat ≤ 122) {id seq : Int} (h1 : 0 ≤ id ∧ id ≤ 9999999999) (h2 : 0 ≤ seq ∧ seq ≤ 9999999999) (v : List UInt8) (y : Sub) : add1 y ⟨rkey 1 t id seq, v⟩ = tell1 t seq v { y with id := id } := by
  rw [add1]
  dsimp only
  rw [parts1 ht h1 h2]
theorem more1_past (v : List UInt8) (s : Int) : ∀ {l : List Msg} (r : List Msg) (st : Nat × Bool), (∀ m ∈ l, m.seq ≠ s) → more1 v s (l ++ r) st = l ++ more1 v s r st
  | [], r, st, _ => rfl
  | m :: l, r, st, h => by
    rw [List.cons_append, more1, if_neg (h m (by simp)), more1_past v s r st fun x hx => h x (by simp [hx])]; rfl
theorem more1_none (v : List UInt8) (s : Int) : ∀ {l : List Msg} (st : Nat × Bool), (∀ m ∈ l, m.seq ≠ s) → more1 v s l st = l
  | [], st, _ => rfl
  | m :: l, st, h => by rw [more1, if_neg (h m (by simp)), more1_none v s st fun x hx => h x (by simp [hx])]
theorem msg1_at {m : Msg} (h : MsgG m) : msg1 (qB m) m.seq = hq2 m := by
  have h0 := at_self (qB m)
  have e : qB m ++ [] = txt m.body ++ (txt m.attr ++ (num m.tries ++ (num m.until_ ++ (num (deadN m) ++ [])))) := by simp [qB]
  rw [e] at h0
  obtain ⟨r0, h0⟩ := t2_at h0 h.body (by decide)
  obtain ⟨r1, h1⟩ := t2_at h0 h.attr (by decide)
  obtain ⟨r2, h2⟩ := n2_at h1
  obtain ⟨r3, h3⟩ := n2_at h2
  obtain ⟨r4, h4⟩ := n2_at h3
  simp only [msg1, r0, r1, r2, r3, r4]
  rw [clampN_53 h.fit.tries, clampN_53 h.fit.until_, h.dead]
  rfl
theorem sS1_at {x : Sub} (h : Good2 x) (y : Sub) : sS1 (sB x) y = { y with name := x.name, topic := x.topic, lease := x.lease, most := x.most, floor := x.floor } := by
  have h0 := at_self (sB x)
  have e : sB x ++ [] = txt x.name ++ (txt x.topic ++ (num x.lease ++ (num x.most ++ (num x.floor ++ [])))) := by simp [sB]
  rw [e] at h0
  obtain ⟨r1, h1⟩ := t2_at h0 h.name (by decide)
  obtain ⟨r2, h2⟩ := t2_at h1 h.topic (by decide)
  obtain ⟨r4, h4⟩ := n2_at h2
  obtain ⟨r5, h5⟩ := n2_at h4
  obtain ⟨r6, h6⟩ := n2_at h5
  simp only [sS1, r1, r2, r4, r5, r6]
  rw [clampN_53 h.lease, clampN_53 h.most, clampN_53 h.floor]
theorem more1_at {m : Msg} (h : MsgG m) {pre post : List Msg} (h1 : ∀ a ∈ pre, a.seq ≠ m.seq) (h2 : ∀ a ∈ post, a.seq ≠ m.seq) : more1 (xB m) m.seq (pre ++ hq2 m :: post) (0, false) = pre ++ m :: post := by
  have h0 := at_self (xB m)
  have e : xB m ++ [] = num m.prio ++ (num (deathN m) ++ []) := by simp [xB]
  rw [e] at h0
  obtain ⟨r1, k1⟩ := n2_at h0
  obtain ⟨r2, k2⟩ := n2_at k1
  rw [more1_past _ _ _ _ h1, more1, if_pos (show (hq2 m).seq = m.seq from rfl), r1, r2, more1_none _ _ _ h2, clampN_53 h.fit.prio, h.why]
  rfl
theorem acks_back {id : Int} (hid : 0 ≤ id ∧ id ≤ 9999999999) : ∀ (l : List Int) (y : Sub), (∀ a ∈ l, 0 ≤ a ∧ a ≤ 9999999999) → ∃ i, (l.map (ack1 id)).foldl add1 y = { y with id := i, acks := y.acks ++ l }
  | [], y, _ => ⟨y.id, by simp⟩
  | a :: l, y, h => by
    rw [List.map_cons, List.foldl_cons, ack1, add1_at (by decide) hid (h a (by simp)), tell1, if_pos rfl]
    obtain ⟨i, hi⟩ := acks_back hid l { y with id := id, acks := y.acks ++ [a] } fun b hb => h b (by simp [hb])
    exact ⟨i, by rw [hi]; simp⟩
theorem queue_back {id : Int} (hid : 0 ≤ id ∧ id ≤ 9999999999) : ∀ (l : List Msg) (y : Sub), (∀ m ∈ l, MsgG m ∧ 0 ≤ m.seq ∧ m.seq ≤ 9999999999) → ∃ i, (l.map (q1 id)).foldl add1 y = { y with id := i, queue := y.queue ++ l.map hq2 }
  | [], y, _ => ⟨y.id, by simp⟩
  | m :: l, y, h => by
    obtain ⟨hg, hs⟩ := h m (by simp)
    rw [List.map_cons, List.foldl_cons, q1, add1_at (by decide) hid hs, tell1, if_neg (show ¬ (113 : UInt8) = 97 by decide), if_neg (show ¬ (113 : UInt8) = 110 by decide), if_pos rfl, msg1_at hg]
    obtain ⟨i, hi⟩ := queue_back hid l { y with id := id, queue := y.queue ++ [hq2 m] } fun b hb => h b (by simp [hb])
    exact ⟨i, by rw [hi]; simp⟩
theorem more_back {id : Int} (hid : 0 ≤ id ∧ id ≤ 9999999999) : ∀ (q pre : List Msg) (y : Sub), (∀ m ∈ q, MsgG m ∧ 0 ≤ m.seq ∧ m.seq ≤ 9999999999) → (∀ a ∈ pre, ∀ m ∈ q, a.seq ≠ m.seq) → (q.map Msg.seq).Pairwise (· ≠ ·) → y.queue = pre ++ q.map hq2 →
    ∃ i, (i = y.id ∨ i = id) ∧ (q.flatMap (x1 id)).foldl add1 y = { y with id := i, queue := pre ++ q }
  | [], pre, y, _, _, _, hy => ⟨y.id, .inl rfl, by cases y; simp at hy; simp [hy]⟩
  | m :: q, pre, y, hr, hp, hd, hy => by
    obtain ⟨hg, hs⟩ := hr m (by simp)
    have hd' : (q.map Msg.seq).Pairwise (· ≠ ·) := by
      rw [List.map_cons, List.pairwise_cons] at hd; exact hd.2
    have hne : ∀ a ∈ q, m.seq ≠ a.seq := fun a ha => by
      rw [List.map_cons, List.pairwise_cons] at hd
      exact hd.1 _ (List.mem_map.2 ⟨a, ha, rfl⟩)
    have hpre : ∀ a ∈ pre ++ [m], ∀ b ∈ q, a.seq ≠ b.seq := fun a ha b hb => by
      rcases List.mem_append.1 ha with ha | ha
      · exact hp a ha b (by simp [hb])
      · obtain rfl := List.mem_singleton.1 ha
        exact hne b hb
    rw [List.flatMap_cons, List.foldl_append]
    by_cases hx : m.prio ≠ 0 ∨ m.dead = true
    · have e1 : x1 id m = [⟨rkey 1 120 id m.seq, xB m⟩] := by simp only [x1, if_pos hx]
      have e2 : more1 (xB m) m.seq y.queue (0, false) = (pre ++ [m]) ++ q.map hq2 := by
        rw [hy, List.map_cons, more1_at hg (fun a ha => hp a ha m (by simp)) (fun a ha => by
          obtain ⟨b, hb, rfl⟩ := List.mem_map.1 ha
          exact (hne b hb).symm)]
        simp
      rw [e1, List.foldl_cons, List.foldl_nil, add1_at (by decide) hid hs, tell1, if_neg (show ¬ (120 : UInt8) = 97 by decide), if_neg (show ¬ (120 : UInt8) = 110 by decide), if_neg (show ¬ (120 : UInt8) = 113 by decide), if_neg (show ¬ (120 : UInt8) = 115 by decide), if_neg (show ¬ (120 : UInt8) = 119 by decide), if_pos rfl]
      obtain ⟨i, hi, e⟩ := more_back hid q (pre ++ [m]) { y with id := id, queue := more1 (xB m) m.seq y.queue (0, false) } (fun b hb => hr b (by simp [hb])) hpre hd' e2
      refine ⟨i, .inr (by rcases hi with hi | hi <;> exact hi), ?_⟩
      rw [e]; simp
    · have e1 : x1 id m = [] := by simp only [x1, if_neg hx]
      have hm : hq2 m = m := by
        have hp : m.prio = 0 := by
          by_cases hp : m.prio = 0
          · exact hp
          · exact absurd (.inl hp) hx
        have hdd : m.dead = false := by
          cases hdd : m.dead
          · rfl
          · exact absurd (.inr hdd) hx
        have hw := hg.calm hdd
        cases m; simp at hp hw; simp [hq2, hp, hw]
      rw [e1, List.foldl_nil]
      obtain ⟨i, hi, e⟩ := more_back hid q (pre ++ [m]) y (fun b hb => hr b (by simp [hb])) hpre hd' (by rw [hy, List.map_cons, hm]; simp)
      exact ⟨i, hi, by rw [e]; simp⟩
theorem rows1_back {x : Sub} (h : Good2 x) : rows1 (enc1 x) = x := by
  have hf := h.floor.1
  have hak : ∀ a ∈ x.acks, 0 ≤ a ∧ a ≤ 9999999999 := fun a ha => by
    have h1 := h.high a ha
    have h2 := h.rise.lt a ha
    omega
  have hms : ∀ m ∈ x.queue, MsgG m ∧ 0 ≤ m.seq ∧ m.seq ≤ 9999999999 := fun m hm => by
    have h1 := h.qhigh m hm
    have h2 := h.qrise.lt m.seq (List.mem_map.2 ⟨m, hm, rfl⟩)
    exact ⟨h.msgs m hm, by omega, h1⟩
  have hap := h.qrise.apart
  have h0 : (0 : Int) ≤ 0 ∧ (0 : Int) ≤ 9999999999 := by omega
  have s3 : ∀ y : Sub, y.note = [] → ∃ i, (note1 x).foldl add1 y = { y with id := i, note := x.note } := by
    intro y hy
    unfold note1
    split
    · rename_i he; exact ⟨y.id, by cases y; simp at hy; simp [hy, he]⟩
    · refine ⟨x.id, ?_⟩
      rw [List.foldl_cons, List.foldl_nil, add1_at (by decide) h.id h0, tell1, if_neg (show ¬ (110 : UInt8) = 97 by decide), if_pos rfl, (t2_at (at_self (txt x.note)) h.note (by decide)).1]
  have s5 : ∀ y : Sub, [s1 x].foldl add1 y = { y with id := x.id, name := x.name, topic := x.topic, lease := x.lease, most := x.most, floor := x.floor } := by
    intro y
    rw [List.foldl_cons, List.foldl_nil, s1, add1_at (by decide) h.id h0, tell1, if_neg (show ¬ (115 : UInt8) = 97 by decide), if_neg (show ¬ (115 : UInt8) = 110 by decide), if_neg (show ¬ (115 : UInt8) = 113 by decide), if_pos rfl, sS1_at h]
  have s6 : ∀ y : Sub, y.want = [] → y.id = x.id → (want1 x).foldl add1 y = { y with want := x.want } := by
    intro y hy hi
    unfold want1
    split
    · rename_i he; cases y; simp at hy; simp [hy, he]
    · rw [List.foldl_cons, List.foldl_nil, add1_at (by decide) h.id h0, tell1, if_neg (show ¬ (119 : UInt8) = 97 by decide), if_neg (show ¬ (119 : UInt8) = 110 by decide), if_neg (show ¬ (119 : UInt8) = 113 by decide), if_neg (show ¬ (119 : UInt8) = 115 by decide), if_pos rfl, (t2_at (at_self (txt x.want)) h.want (by decide)).1]
      cases y; simp at hi; simp [hi]
  unfold rows1 enc1 encB encA
  rw [List.foldl_append, List.foldl_append, List.foldl_append, List.foldl_append, List.foldl_append]
  obtain ⟨i1, e1⟩ := acks_back h.id x.acks sub0 hak
  rw [e1]
  obtain ⟨i2, e2⟩ := s3 _ (show ({ sub0 with id := i1, acks := sub0.acks ++ x.acks } : Sub).note = [] from rfl)
  rw [e2]
  obtain ⟨i3, e3⟩ := queue_back h.id x.queue { ({ sub0 with id := i1, acks := sub0.acks ++ x.acks } : Sub) with id := i2, note := x.note } hms
  rw [e3, s5]
  rw [s6 _ (by rfl) (by rfl)]
  obtain ⟨i4, h4, e4⟩ := more_back h.id x.queue [] { x with queue := x.queue.map hq2 } hms (by simp) hap rfl
  have h5 : i4 = x.id := by rcases h4 with h4 | h4 <;> exact h4
  rw [h5] at e4
  refine Eq.trans (congrArg (fun y => List.foldl add1 y (x.queue.flatMap (x1 x.id))) (?_ : _ = { x with queue := x.queue.map hq2 })) (e4.trans (by simp))
  simp [sub0]
end Go.Proofs.YtkbmkhhcppfcnaaGreatDoor
end
section
set_option linter.unusedVariables false
set_option linter.unusedSimpArgs false
namespace Go.Proofs.YtkbmkhhcppfcnaaGreatDoor
open Go.Al
theorem Up.app {l m : List Row} (h1 : Up l) (h2 : Up m) (h : ∀ a ∈ l, ∀ b ∈ m, ltS a.key b.key = true) : Up (l ++ m) := List.pairwise_append.2 ⟨h1, h2, h⟩
def InT (t : Nat) (id : Int) (l : List Row) : Prop := ∀ r ∈ l, ∃ u seq, u.toNat = t ∧ r.key = rkey 2 u id seq
theorem ack2_in (x : Sub) : InT 97 x.id (ack2 x) := fun r hr => by
  unfold ack2 at hr
  split at hr
  · simp at hr
  · obtain rfl := List.mem_singleton.1 hr; exact ⟨97, 0, rfl, rfl⟩
theorem b2_in (x : Sub) : InT 98 x.id (x.queue.map (b2 x.id)) := fun r hr => by
  obtain ⟨m, hm, rfl⟩ := List.mem_map.1 hr
  exact ⟨98, m.seq, rfl, rfl⟩
theorem note2_in (x : Sub) : InT 110 x.id (note2 x) := fun r hr => by
  unfold note2 at hr
  split at hr
  · simp at hr
  · obtain rfl := List.mem_singleton.1 hr; exact ⟨110, 0, rfl, rfl⟩
theorem q2_in (x : Sub) : InT 113 x.id (x.queue.map (q2 x.id)) := fun r hr => by
  obtain ⟨m, hm, rfl⟩ := List.mem_map.1 hr
  exact ⟨113, m.seq, rfl, rfl⟩
theorem s2_in (x : Sub) : InT 115 x.id [s2 x] := fun r hr => by
  obtain rfl := List.mem_singleton.1 hr; exact ⟨115, 0, rfl, rfl⟩
theorem x2_mem {id : Int} {q : List Msg} {r : Row} (h : r ∈ q.flatMap (x2 id)) : ∃ m ∈ q, r = ⟨rkey 2 120 id m.seq, xB m⟩ := by
  obtain ⟨m, hm, h⟩ := List.mem_flatMap.1 h
  unfold x2 at h
  split at h
  · obtain rfl := List.mem_singleton.1 h; exact ⟨m, hm, rfl⟩
  · simp at h
theorem x2_in (x : Sub) : InT 120 x.id (x.queue.flatMap (x2 x.id)) := fun r hr => by
  obtain ⟨m, hm, rfl⟩ := x2_mem hr
  exact ⟨120, m.seq, rfl, rfl⟩
theorem in_lt {s t : Nat} {id : Int} {l m : List Row} (h1 : InT s id l) (h2 : InT t id m) (h : s < t) : ∀ a ∈ l, ∀ b ∈ m, ltS a.key b.key = true := fun a ha b hb => by
  obtain ⟨u, i, hu, e⟩ := h1 a ha
  obtain ⟨w, j, hw, f⟩ := h2 b hb
  rw [e, f]
  exact rkey_table 2 (by omega) id i j
theorem all_app {l m n : List Row} (h1 : ∀ a ∈ l, ∀ b ∈ n, ltS a.key b.key = true) (h2 : ∀ a ∈ m, ∀ b ∈ n, ltS a.key b.key = true) : ∀ a ∈ l ++ m, ∀ b ∈ n, ltS a.key b.key = true := fun a ha b hb => by
  rcases List.mem_append.1 ha with ha | ha
  · exact h1 a ha b hb
  · exact h2 a ha b hb
theorem up1 (l : List Row) (h : l.length ≤ 1) : Up l := by
  match l, h with
  | [], _ => exact .nil
  | [a], _ => exact .cons (by simp) .nil
theorem x2_up (id : Int) : ∀ (q : List Msg) (lo : Int), 0 ≤ lo → Rise lo (q.map Msg.seq) → (∀ m ∈ q, m.seq ≤ 9999999999) → Up (q.flatMap (x2 id))
  | [], _, _, _, _ => .nil
  | m :: q, lo, h0, h, hh => by
    have h1 : lo < m.seq := h.1
    rw [List.flatMap_cons]
    refine Up.app (up1 _ (by unfold x2; split <;> simp)) (x2_up id q m.seq (by omega) h.2 fun x hx => hh x (by simp [hx])) fun a ha b hb => ?_
    obtain ⟨y, hy, rfl⟩ := x2_mem hb
    have ha' : a = ⟨rkey 2 120 id m.seq, xB m⟩ := by
      unfold x2 at ha
      split at ha
      · exact List.mem_singleton.1 ha
      · simp at ha
    subst ha'
    have : m.seq < y.seq := h.2.lt _ (List.mem_map.2 ⟨y, hy, rfl⟩)
    exact rkey_seq 2 120 id (by omega) this (hh y (by simp [hy]))
theorem enc2_up {x : Sub} (h : Good2 x) : Up (enc2 x) := by
  have hf := h.floor.1
  have a1 : Up (ack2 x) := up1 _ (by unfold ack2; split <;> simp)
  have a2 : Up (x.queue.map (b2 x.id)) := rise_rows 2 98 x.id (fun m => txt m.body) x.queue x.floor hf h.qrise h.qhigh
  have a3 : Up (note2 x) := up1 _ (by unfold note2; split <;> simp)
  have a4 : Up (x.queue.map (q2 x.id)) := rise_rows 2 113 x.id qB2 x.queue x.floor hf h.qrise h.qhigh
  have a5 : Up [s2 x] := up1 _ (by simp)
  have a6 : Up (x.queue.flatMap (x2 x.id)) := x2_up x.id x.queue x.floor hf h.qrise h.qhigh
  have t1 := ack2_in x
  have t2 := b2_in x
  have t3 := note2_in x
  have t4 := q2_in x
  have t5 := s2_in x
  have t6 := x2_in x
  refine (((((a1.app a2 ?_).app a3 ?_).app a4 ?_).app a5 ?_).app a6 ?_)
  · exact in_lt t1 t2 (by decide)
  · exact all_app (in_lt t1 t3 (by decide)) (in_lt t2 t3 (by decide))
  · exact all_app (all_app (in_lt t1 t4 (by decide)) (in_lt t2 t4 (by decide))) (in_lt t3 t4 (by decide))
  · exact all_app (all_app (all_app (in_lt t1 t5 (by decide)) (in_lt t2 t5 (by decide))) (in_lt t3 t5 (by decide))) (in_lt t4 t5 (by decide))
  · exact all_app (all_app (all_app (all_app (in_lt t1 t6 (by decide)) (in_lt t2 t6 (by decide))) (in_lt t3 t6 (by decide))) (in_lt t4 t6 (by decide))) (in_lt t5 t6 (by decide))
theorem dec2_back {x : Sub} (h : Good2 x) : dec2 (enc2 x) = (x, 0) := by
  have hr := rows2_back h
  have hs : fin2 (enc2 x) = x := by
    rw [fin2, hr]
    dsimp only
    rw [runUp_diffs x.acks x.floor 9999999999 h.floor.1 h.rise h.high (by omega)]
  rw [dec2, hs, if_pos ⟨upTo_up (enc2_up h) _ (Nat.le_refl _), rfl⟩]
theorem x2_few (id : Int) : ∀ q : List Msg, (q.flatMap (x2 id)).length ≤ q.length
  | [] => by simp
  | m :: q => by
    have := x2_few id q
    have h : (x2 id m).length ≤ 1 := by unfold x2; split <;> simp
    rw [List.flatMap_cons]; simp only [List.length_append, List.length_cons]; omega
theorem enc2_few (x : Sub) : (enc2 x).length ≤ 3 + 3 * x.queue.length := by
  have h1 := x2_few x.id x.queue
  have h2 : (ack2 x).length ≤ 1 := by unfold ack2; split <;> simp
  have h3 : (note2 x).length ≤ 1 := by unfold note2; split <;> simp
  rw [enc2]; simp only [List.length_append, List.length_map, List.length_singleton]; omega
theorem enc2_row {id clock next : Nat} {x : Sub} (h : Grown id clock next x) (hn : next ≤ 16384) {r : Row} (hr : r ∈ enc2 x) : (∃ t seq, (97 ≤ t.toNat ∧ t.toNat ≤ 122) ∧ r.key = rkey 2 t x.id seq) ∧ r.val.length ≤ 150 := by
  have tl := txt_len
  have nl := num_len
  rw [enc2] at hr
  rcases List.mem_append.1 hr with hr | hr
  · rcases List.mem_append.1 hr with hr | hr
    · rcases List.mem_append.1 hr with hr | hr
      · rcases List.mem_append.1 hr with hr | hr
        · rcases List.mem_append.1 hr with hr | hr
          · unfold ack2 at hr
            split at hr
            · simp at hr
            · obtain rfl := List.mem_singleton.1 hr
              exact ⟨⟨97, 0, by decide, rfl⟩, acksB_short h hn⟩
          · obtain ⟨m, hm, rfl⟩ := List.mem_map.1 hr
            refine ⟨⟨98, m.seq, by decide, rfl⟩, ?_⟩
            have := tl m.body
            have := (h.msgs m hm).body
            show (txt m.body).length ≤ 150
            omega
        · unfold note2 at hr
          split at hr
          · simp at hr
          · obtain rfl := List.mem_singleton.1 hr
            refine ⟨⟨110, 0, by decide, rfl⟩, ?_⟩
            have := tl x.note
            have := h.note
            show (txt x.note).length ≤ 150
            omega
      · obtain ⟨m, hm, rfl⟩ := List.mem_map.1 hr
        refine ⟨⟨113, m.seq, by decide, rfl⟩, ?_⟩
        have h1 := tl m.attr
        have h2 := (h.msgs m hm).alen
        have h3 := nl m.tries
        have h4 := nl m.until_
        have h5 := nl (deadN m)
        show (qB2 m).length ≤ 150
        rw [qB2]; simp only [List.length_append]; omega
    · obtain rfl := List.mem_singleton.1 hr
      refine ⟨⟨115, 0, by decide, rfl⟩, ?_⟩
      have h1 := tl x.name
      have h2 := tl x.topic
      have h3 := tl x.want
      have h5 := nl x.lease
      have h6 := nl x.most
      have h7 := nl x.floor
      have h8 := h.nlen
      have h9 := topic_short h.topic
      have ha := want_short h.want
      show (sB2 x).length ≤ 150
      rw [sB2]; simp only [List.length_append]; omega
  · obtain ⟨m, hm, rfl⟩ := x2_mem hr
    refine ⟨⟨120, m.seq, by decide, rfl⟩, ?_⟩
    have h1 := nl m.prio
    have h2 := nl (deathN m)
    show (xB m).length ≤ 150
    rw [xB]; simp only [List.length_append]; omega
end Go.Proofs.YtkbmkhhcppfcnaaGreatDoor
end
section
set_option linter.unusedVariables false
set_option linter.unusedSimpArgs false
namespace Go.Proofs.YtkbmkhhcppfcnaaGreatDoor
open Go.Al
def InV (v t : Nat) (id : Int) (l : List Row) : Prop := ∀ r ∈ l, ∃ u seq, u.toNat = t ∧ r.key = rkey v u id seq
theorem inV_lt {v s t : Nat} {id : Int} {l m : List Row} (hv : v < 10) (h1 : InV v s id l) (h2 : InV v t id m) (h : s < t) : ∀ a ∈ l, ∀ b ∈ m, ltS a.key b.key = true := fun a ha b hb => by
  obtain ⟨u, i, hu, e⟩ := h1 a ha
  obtain ⟨w, j, hw, f⟩ := h2 b hb
  rw [e, f]
  exact rkey_table v (by omega) id i j
theorem acks_in1 (x : Sub) : InV 1 97 x.id (x.acks.map (ack1 x.id)) := fun r hr => by
  obtain ⟨m, hm, rfl⟩ := List.mem_map.1 hr
  exact ⟨97, m, rfl, rfl⟩
theorem note1_in (x : Sub) : InV 1 110 x.id (note1 x) := fun r hr => by
  unfold note1 at hr
  split at hr
  · simp at hr
  · obtain rfl := List.mem_singleton.1 hr; exact ⟨110, 0, rfl, rfl⟩
theorem q1_in (x : Sub) : InV 1 113 x.id (x.queue.map (q1 x.id)) := fun r hr => by
  obtain ⟨m, hm, rfl⟩ := List.mem_map.1 hr
  exact ⟨113, m.seq, rfl, rfl⟩
theorem s1_in (x : Sub) : InV 1 115 x.id [s1 x] := fun r hr => by
  obtain rfl := List.mem_singleton.1 hr; exact ⟨115, 0, rfl, rfl⟩
theorem want1_in (x : Sub) : InV 1 119 x.id (want1 x) := fun r hr => by
  unfold want1 at hr
  split at hr
  · simp at hr
  · obtain rfl := List.mem_singleton.1 hr; exact ⟨119, 0, rfl, rfl⟩
theorem x1_mem {id : Int} {q : List Msg} {r : Row} (h : r ∈ q.flatMap (x1 id)) : ∃ m ∈ q, r = ⟨rkey 1 120 id m.seq, xB m⟩ := by
  obtain ⟨m, hm, h⟩ := List.mem_flatMap.1 h
  unfold x1 at h
  split at h
  · obtain rfl := List.mem_singleton.1 h; exact ⟨m, hm, rfl⟩
  · simp at h
theorem x1_in (x : Sub) : InV 1 120 x.id (x.queue.flatMap (x1 x.id)) := fun r hr => by
  obtain ⟨m, hm, rfl⟩ := x1_mem hr
  exact ⟨120, m.seq, rfl, rfl⟩
theorem acks_up (id : Int) : ∀ (l : List Int) (lo : Int), 0 ≤ lo → Rise lo l → (∀ a ∈ l, a ≤ 9999999999) → Up (l.map (ack1 id))
  | [], _, _, _, _ => .nil
  | a :: l, lo, h0, h, hh => by
    have h1 : lo < a := h.1
    rw [List.map_cons]
    refine .cons (fun b hb => ?_) (acks_up id l a (by omega) h.2 fun x hx => hh x (by simp [hx]))
    obtain ⟨y, hy, rfl⟩ := List.mem_map.1 hb
    exact rkey_seq 1 97 id (by omega) (h.2.lt y hy) (hh y (by simp [hy]))
theorem x1_up (id : Int) : ∀ (q : List Msg) (lo : Int), 0 ≤ lo → Rise lo (q.map Msg.seq) → (∀ m ∈ q, m.seq ≤ 9999999999) → Up (q.flatMap (x1 id))
  | [], _, _, _, _ => .nil
  | m :: q, lo, h0, h, hh => by
    have h1 : lo < m.seq := h.1
    rw [List.flatMap_cons]
    refine Up.app (up1 _ (x1_len id m)) (x1_up id q m.seq (by omega) h.2 fun x hx => hh x (by simp [hx])) fun a ha b hb => ?_
    obtain ⟨y, hy, rfl⟩ := x1_mem hb
    have ha' : a = ⟨rkey 1 120 id m.seq, xB m⟩ := by
      unfold x1 at ha
      split at ha
      · exact List.mem_singleton.1 ha
      · simp at ha
    subst ha'
    have : m.seq < y.seq := h.2.lt _ (List.mem_map.2 ⟨y, hy, rfl⟩)
    exact rkey_seq 1 120 id (by omega) this (hh y (by simp [hy]))
theorem enc1_up {x : Sub} (h : Good2 x) : Up (enc1 x) := by
  have hf := h.floor.1
  have a1 : Up (x.acks.map (ack1 x.id)) := acks_up x.id x.acks x.floor hf h.rise fun a ha => by have := h.high a ha; omega
  have a2 : Up (note1 x) := up1 _ (note1_len x)
  have a3 : Up (x.queue.map (q1 x.id)) := rise_rows 1 113 x.id qB x.queue x.floor hf h.qrise h.qhigh
  have a4 : Up [s1 x] := up1 _ (by simp)
  have a5 : Up (want1 x) := up1 _ (want1_len x)
  have a6 : Up (x.queue.flatMap (x1 x.id)) := x1_up x.id x.queue x.floor hf h.qrise h.qhigh
  have t1 := acks_in1 x
  have t2 := note1_in x
  have t3 := q1_in x
  have t4 := s1_in x
  have t5 := want1_in x
  have t6 := x1_in x
  refine (((((a1.app a2 ?_).app a3 ?_).app a4 ?_).app a5 ?_).app a6 ?_)
  · exact inV_lt (by decide) t1 t2 (by decide)
  · exact all_app (inV_lt (by decide) t1 t3 (by decide)) (inV_lt (by decide) t2 t3 (by decide))
  · exact all_app (all_app (inV_lt (by decide) t1 t4 (by decide)) (inV_lt (by decide) t2 t4 (by decide))) (inV_lt (by decide) t3 t4 (by decide))
  · exact all_app (all_app (all_app (inV_lt (by decide) t1 t5 (by decide)) (inV_lt (by decide) t2 t5 (by decide))) (inV_lt (by decide) t3 t5 (by decide))) (inV_lt (by decide) t4 t5 (by decide))
  · exact all_app (all_app (all_app (all_app (inV_lt (by decide) t1 t6 (by decide)) (inV_lt (by decide) t2 t6 (by decide))) (inV_lt (by decide) t3 t6 (by decide))) (inV_lt (by decide) t4 t6 (by decide))) (inV_lt (by decide) t5 t6 (by decide))
theorem dec1_back {x : Sub} (h : Good2 x) : dec1 (enc1 x) = (x, 0) := by
  have hr := rows1_back h
  rw [dec1, hr, if_pos ⟨upTo_up (enc1_up h) _ (Nat.le_refl _), rfl⟩]
theorem enc1_few (x : Sub) : (enc1 x).length ≤ 3 + x.acks.length + 2 * x.queue.length := by
  have h1 := x1s_len x.id x.queue
  have h2 := note1_len x
  have h3 := want1_len x
  simp only [enc1, encB, encA, List.length_append, List.length_map, List.length_cons, List.length_nil]; omega
theorem enc1_row {id clock next : Nat} {x : Sub} (h : Grown id clock next x) (hn : next ≤ 16384) {r : Row} (hr : r ∈ enc1 x) : (∃ t seq, (97 ≤ t.toNat ∧ t.toNat ≤ 122) ∧ r.key = rkey 1 t x.id seq) ∧ r.val.length ≤ 150 := by
  have tl := txt_len
  have nl := num_len
  rw [enc1, encB, encA] at hr
  rcases List.mem_append.1 hr with hr | hr
  · rcases List.mem_append.1 hr with hr | hr
    · rcases List.mem_append.1 hr with hr | hr
      · rcases List.mem_append.1 hr with hr | hr
        · rcases List.mem_append.1 hr with hr | hr
          · obtain ⟨n, hn, rfl⟩ := List.mem_map.1 hr
            exact ⟨⟨97, n, by decide, rfl⟩, Nat.zero_le _⟩
          · unfold note1 at hr
            split at hr
            · simp at hr
            · obtain rfl := List.mem_singleton.1 hr
              refine ⟨⟨110, 0, by decide, rfl⟩, ?_⟩
              have := tl x.note
              have := h.note
              show (txt x.note).length ≤ 150
              omega
        · obtain ⟨m, hm, rfl⟩ := List.mem_map.1 hr
          refine ⟨⟨113, m.seq, by decide, rfl⟩, ?_⟩
          have h0 := tl m.body
          have h6 := (h.msgs m hm).body
          have h1 := tl m.attr
          have h2 := (h.msgs m hm).alen
          have h3 := nl m.tries
          have h4 := nl m.until_
          have h5 := nl (deadN m)
          show (qB m).length ≤ 150
          rw [qB]; simp only [List.length_append]; omega
      · obtain rfl := List.mem_singleton.1 hr
        refine ⟨⟨115, 0, by decide, rfl⟩, ?_⟩
        have h1 := tl x.name
        have h2 := tl x.topic
        have h5 := nl x.lease
        have h6 := nl x.most
        have h7 := nl x.floor
        have h8 := h.nlen
        have h9 := topic_short h.topic
        show (sB x).length ≤ 150
        rw [sB]; simp only [List.length_append]; omega
    · unfold want1 at hr
      split at hr
      · simp at hr
      · obtain rfl := List.mem_singleton.1 hr
        refine ⟨⟨119, 0, by decide, rfl⟩, ?_⟩
        have := tl x.want
        have := want_short h.want
        show (txt x.want).length ≤ 150
        omega
  · obtain ⟨m, hm, rfl⟩ := x1_mem hr
    refine ⟨⟨120, m.seq, by decide, rfl⟩, ?_⟩
    have h1 := nl m.prio
    have h2 := nl (deathN m)
    show (xB m).length ≤ 150
    rw [xB]; simp only [List.length_append]; omega
end Go.Proofs.YtkbmkhhcppfcnaaGreatDoor
end
section
set_option linter.unusedVariables false
set_option linter.unusedSimpArgs false
set_option maxRecDepth 100000
set_option maxHeartbeats 2000000
namespace Go.Proofs.YtkbmkhhcppfcnaaGreatDoor
open Go.Al Go.RowKit
def subC (x : Sub) (ta tq : Tok) : List AV := [.int .i64 x.id, .str x.name, .str x.topic, .str x.want, .int .i64 x.lease, .int .i64 x.most, .int .i64 x.floor, .slc 1 (x.acks.map (.int .i64)) ta, .slc 8 (x.queue.map eMsg) tq, .str x.note]
def msgC (m : Msg) : List AV := [.int .i64 m.seq, .str m.body, .str m.attr, .int .i64 m.tries, .int .i64 m.until_, .bool m.dead, .str m.why, .int .i64 m.prio]
theorem weak_sub (x : Sub) (ta tq : Tok) : Weak (eSub x) (.agg (subC x ta tq)) := .agg (.cons (.refl _) (.cons (.refl _) (.cons (.refl _) (.cons (.refl _) (.cons (.refl _) (.cons (.refl _) (.cons (.refl _) (.cons (.tok _ _ _) (.cons (.tok _ _ _) (.cons (.refl _) .nil)))))))))) (by simp [AV.one, eInts, eMsgs])
def z10 : List AV := [.int .i64 0, .str [], .str [], .str [], .int .i64 0, .int .i64 0, .int .i64 0, .nils, .nils, .str []]
structure InSub (σ s : St) (b8 bx : Nat) (x : Sub) (ta tq : Tok) : Prop where
  r : s.box b8 = some z10
  b : s.box bx = some (subC x ta tq)
  ma : Moves σ .full s ta
  mq : Moves σ .full s tq
  d : ∀ p, tq = .own p → ta ≠ .own p
theorem InSub.set {σ s : St} {b8 bx : Nat} {x x' : Sub} {ta tq : Tok} (h : InSub σ s b8 bx x ta tq) (hne : b8 ≠ bx) (hbx : σ.box bx = none) : InSub σ (s.setBox bx (subC x' ta tq)) b8 bx x' ta tq :=
  ⟨hb_ne hne h.r, setBox_same, h.ma.new hbx, h.mq.new hbx, h.d⟩
theorem InSub.other {σ s : St} {b8 bx b : Nat} {x : Sub} {ta tq : Tok} {cs : List AV} (h : InSub σ s b8 bx x ta tq) (h8 : b8 ≠ b) (hx : bx ≠ b) (hb : σ.box b = none) : InSub σ (s.setBox b cs) b8 bx x ta tq :=
  ⟨hb_ne h8 h.r, hb_ne hx h.b, h.ma.new hb, h.mq.new hb, h.d⟩
theorem InSub.acks {σ s σ1 : St} {b8 bx : Nat} {x x' : Sub} {ta tq tk : Tok} (h : InSub σ s b8 bx x ta tq) (hne : b8 ≠ bx) (hbx : σ.box bx = none) (hm : Moves s ta σ1 tk) : InSub σ (σ1.setBox bx (subC x' tk tq)) b8 bx x' tk tq := by
  obtain ⟨h1, h2, h3⟩ := Moves.two h.ma h.mq h.d hm
  exact ⟨hb_ne hne (hm.box _ _ h.r), setBox_same, h1.new hbx, h2.new hbx, h3⟩
theorem InSub.queue {σ s σ1 : St} {b8 bx : Nat} {x x' : Sub} {ta tq tk : Tok} (h : InSub σ s b8 bx x ta tq) (hne : b8 ≠ bx) (hbx : σ.box bx = none) (hm : Moves s tq σ1 tk) : InSub σ (σ1.setBox bx (subC x' ta tk)) b8 bx x' ta tk := by
  obtain ⟨h1, h2, h3⟩ := Moves.two h.mq h.ma (fun p e e' => h.d p e' e) hm
  exact ⟨hb_ne hne (hm.box _ _ h.r), setBox_same, h2.new hbx, h1.new hbx, fun p e e' => h3 p e' e⟩
theorem sub_any (w0 : Base) (c : List UInt8) (t : Tok) (id clock next : Nat) (hc : c.length ≤ 9223372036854775807) (hid : id ≤ 1000) (hclock : clock ≤ 100000000) (hnext : 1 ≤ next ∧ next ≤ 100000) (σ : St) :
    CallW Tryz.prog w0 11 [.slc 1 (aBytes c) t, .int .i64 id, .int .i64 clock, .int .i64 next] σ (fun r s => ∃ x, r = eSub x ∧ Grown id clock next x ∧ s = σ) := by
  refine CallW.start Tryz.func11 rfl Tryz.ntmps11 (by simp) fun Q hQ => ?_
  have g0 := gL_lt c 0
  have g1 := gL_lt c 1
  have g2 := gL_lt c 2
  have g3 := gL_lt c 3
  have g4 := gL_lt c 4
  have hm0 : gL c 0 % 20 ≤ 19 := by omega
  have hlt0 := textL_len (gL c 0) 19
  refine W.seq ?_; refine W.regionL (by decide +kernel) rfl ?_; apply r_alloc; exact rfl; exact rfl; decide; exact rfl; (conv => (lhs; whnf)); intro b1 hb1; refine runs_done ?_; show W _ _ _ _ _ _ _
  obtain ⟨tp, htp, htl⟩ : ∃ v : List UInt8, [AV.str [35], .str [97], .str [97, 47, 43], .str [98, 47, 35]][((gL c 1 : Int) % 4).toNat]? = some (.str v) ∧ TopicOk v := by
    have h : gL c 1 % 4 < 4 := Nat.mod_lt _ (by decide)
    rw [show ((gL c 1 : Int) % 4).toNat = gL c 1 % 4 by omega]
    generalize gL c 1 % 4 = q at h
    match q, h with
    | 0, _ => exact ⟨_, rfl, .inl rfl⟩
    | 1, _ => exact ⟨_, rfl, .inr (.inl rfl)⟩
    | 2, _ => exact ⟨_, rfl, .inr (.inr (.inl rfl))⟩
    | 3, _ => exact ⟨_, rfl, .inr (.inr (.inr rfl))⟩
  obtain ⟨wn, hwn, hwl⟩ : ∃ v : List UInt8, [AV.str [], .str [97, 61, 49], .str [97, 61, 49, 44, 98, 61, 50]][((gL c 1 : Int) / 4 % 3).toNat]? = some (.str v) ∧ WantOk v := by
    have h : gL c 1 / 4 % 3 < 3 := Nat.mod_lt _ (by decide)
    rw [show ((gL c 1 : Int) / 4 % 3).toNat = gL c 1 / 4 % 3 by omega]
    generalize gL c 1 / 4 % 3 = q at h
    match q, h with
    | 0, _ => exact ⟨_, rfl, .inl rfl⟩
    | 1, _ => exact ⟨_, rfl, .inr (.inl rfl)⟩
    | 2, _ => exact ⟨_, rfl, .inr (.inr rfl)⟩
  refine W.seq ?_; refine W.regionDK 0 [] Ty.mixed (by decide +kernel) (by decide +kernel) rfl ?_; apply r_op; exact rfl; exact rfl; apply a_move; (conv => (lhs; whnf)); apply r_op; exact rfl; exact rfl; apply a_move; (conv => (lhs; whnf)); apply r_callP; exact rfl; exact rfl; exact rfl; exact rfl; exact rfl; infer_instance; exact g_any w0 c t 0; apply r_callP; exact rfl; exact rfl; exact rfl
  exact rfl; exact rfl; infer_instance; exact lawtext_any w0 (gL c 0) 19 (by omega) (by omega); apply r_op; exact rfl; exact rfl; apply g_binOp; exact a_addS rfl rfl (by simp only [length_aBytes, List.length_append, List.length_cons, List.length_nil, List.length_map, List.length_range]; omega); apply r_op; exact rfl; exact rfl; apply g_buildSlice; apply a_buildN
  apply EvP.cons (by (conv => (lhs; whnf))); apply EvP.cons (by (conv => (lhs; whnf))); apply EvP.cons (by (conv => (lhs; whnf))); apply EvP.cons (by (conv => (lhs; whnf))); exact EvP.nil; (conv => (lhs; whnf)); exact rfl; exact rfl; decide; apply r_op; exact rfl; exact rfl; apply a_move; (conv => (lhs; whnf)); apply r_callP; exact rfl; exact rfl; exact rfl; exact rfl; exact rfl; infer_instance
  exact g_any w0 c t 1; apply r_op; exact rfl; exact rfl; apply g_binOp; exact a_rem rfl rfl (by omega); apply r_op; exact rfl; exact rfl; apply g_indexAddr; exact a_indexAddr rfl rfl (by decide) (by omega) (by assumption); apply r_op; exact rfl; exact rfl; apply g_load; exact a_load1 rfl rfl; apply r_op; exact rfl; exact rfl; apply g_buildSlice; apply a_buildN
  apply EvP.cons (by (conv => (lhs; whnf))); apply EvP.cons (by (conv => (lhs; whnf))); apply EvP.cons (by (conv => (lhs; whnf))); exact EvP.nil; (conv => (lhs; whnf)); exact rfl; exact rfl; decide; apply r_op; exact rfl; exact rfl; apply a_move; (conv => (lhs; whnf)); apply r_callP; exact rfl; exact rfl; exact rfl; exact rfl; exact rfl; infer_instance; exact g_any w0 c t 1; apply r_op; exact rfl
  exact rfl; apply g_binOp; exact a_quo64 rfl rfl (by omega); apply r_op; exact rfl; exact rfl; apply g_binOp; exact a_rem rfl rfl (by omega); apply r_op; exact rfl; exact rfl; apply g_indexAddr; exact a_indexAddr rfl rfl (by decide) (by omega) (by assumption); apply r_op; exact rfl; exact rfl; apply g_load; exact a_load1 rfl rfl; apply r_op; exact rfl; exact rfl; apply a_move
  (conv => (lhs; whnf)); apply r_callP; exact rfl; exact rfl; exact rfl; exact rfl; exact rfl; infer_instance; exact g_any w0 c t 2; apply r_op; exact rfl; exact rfl; apply g_binOp; exact a_mul64 rfl rfl (by omega); apply r_op; exact rfl; exact rfl; apply g_binOp; exact a_add64 rfl rfl (by omega); apply r_op; exact rfl; exact rfl; apply a_move; (conv => (lhs; whnf)); apply r_callP; exact rfl
  exact rfl; exact rfl; exact rfl; exact rfl; infer_instance; exact g_any w0 c t 3; apply r_op; exact rfl; exact rfl; apply g_binOp; exact a_rem rfl rfl (by omega); apply r_op; exact rfl; exact rfl; apply g_binOp; exact a_add64 rfl rfl (by omega); apply r_op; exact rfl; exact rfl; apply a_move; (conv => (lhs; whnf)); apply r_callP; exact rfl; exact rfl; exact rfl; exact rfl; exact rfl
  infer_instance; exact g_any w0 c t 4; apply r_op; exact rfl; exact rfl; apply a_move; (conv => (lhs; whnf)); apply r_op; exact rfl; exact rfl; apply g_binOp; exact a_rem rfl rfl (by omega); apply r_op; exact rfl; exact rfl; apply g_build; apply a_build; apply EvP.cons (by (conv => (lhs; whnf))); apply EvP.cons (by (conv => (lhs; whnf))); apply EvP.cons (by (conv => (lhs; whnf)))
  apply EvP.cons (by (conv => (lhs; whnf))); apply EvP.cons (by (conv => (lhs; whnf))); apply EvP.cons (by (conv => (lhs; whnf))); apply EvP.cons (by (conv => (lhs; whnf))); exact EvP.nil
  simp only [aFill, List.getElem?_cons_zero, List.getElem?_cons_succ, AV.cells, List.length_cons, List.length_nil, AV.flat, AV.one, setL, List.set_cons_zero, List.set_cons_succ, Nat.reduceAdd, Nat.reduceLeDiff, Nat.reduceMul, and_self, if_true, ↓reduceIte, Nat.zero_add, Nat.le_refl, List.range, List.range.loop, List.map_cons, List.map_nil, Nat.zero_le]
  rfl; apply r_alloc; exact rfl; exact rfl; decide; exact rfl; (conv => (lhs; whnf)); intro b1 hb1; apply r_store; exact rfl; exact rfl; exact rfl; decide; infer_instance; exact rfl; exact setBox_same; (conv => (lhs; whnf)); exact rfl; (conv => (lhs; whnf)); exact rfl; exact of_decide_eq_true rfl; exact setL_whole rfl; refine runs_done ?_; show W _ _ _ _ _ _ _
  rename_i b8 hb8
  have hne : b8 ≠ b1 := ne_none' hb1
  have hbx : σ.box b1 = none := none_in hb1
  generalize b1 = bx at hne hbx hb1 ⊢
  generalize hx1 : (⟨id, [110] ++ textL (gL c 0) 19, tp, wn, 1 + (gL c 2 : Int) * 3, 1 + (gL c 3 : Int) % 9, (gL c 4 : Int) % (next : Int), [], [], []⟩ : Sub) = x1
  have hs1 : InSub σ (((σ.setBox b8 z10).setBox bx z10).setBox bx (subC x1 .full .full)) b8 bx x1 .full .full := by
    rw [setBox_setBox]
    exact ⟨hb_ne hne setBox_same, setBox_same, ((Moves.full σ).new hb8).new hbx, ((Moves.full σ).new hb8).new hbx, fun p e => by cases e⟩
  have hgr : Grown id clock next x1 := by
    subst hx1
    refine ⟨⟨gL c 0, g0, rfl⟩, htl, hwl, by simp, rfl, ?_, ?_, ?_, by simp, by simp, trivial, by simp, trivial, by simp, by simp, by simp⟩
    · show 1 ≤ 1 + (gL c 3 : Int) % 9 ∧ 1 + (gL c 3 : Int) % 9 ≤ 9; omega
    · show 1 ≤ 1 + (gL c 2 : Int) * 3 ∧ 1 + (gL c 2 : Int) * 3 ≤ 1000; omega
    · exact ⟨Int.emod_nonneg _ (by omega), Int.emod_lt_of_pos _ (by omega)⟩
  have hup : UpTo x1 x1.floor := by subst hx1; exact ⟨Int.le_refl _, by simp, by simp⟩
  refine W.weakBox (b := bx) (ds := subC x1 .full .full) setBox_same ?_ ?_
  · subst hx1
    exact .cons (.refl _) (.cons (.refl _) (.cons (.refl _) (.cons (.refl _) (.cons (.refl _) (.cons (.refl _) (.cons (.refl _) (.cons (.nils 1 .full (.inr rfl)) (.cons (.nils 8 .full (.inr rfl)) (.cons (.refl _) .nil)))))))))
  rw [setBox_setBox, setBox_setBox]
  rw [setBox_setBox] at hs1
  change W Tryz.prog w0 _ _ _ _ ((σ.setBox b8 z10).setBox bx (subC x1 .full .full))
  generalize (σ.setBox b8 z10).setBox bx (subC x1 .full .full) = s1 at hs1 ⊢
  have hlt5 := textL_len (gL c 5) 30
  have g5 := gL_lt c 5
  refine W.seq ?_; refine W.meet (fun E s => ∃ x, Grown id clock next x ∧ UpTo x x.floor ∧ InSub σ s b8 bx x .full .full ∧ Has [(0, .slc 1 (aBytes c) t), (2, .int .i64 clock), (3, .int .i64 next), (8, .ptr b8 0), (9, .ptr bx 0)] E) ?_ ?_
  · have hb1 := hs1.b
    refine W.seq ?_; refine W.regionL (by decide +kernel) rfl ?_; apply r_op; exact rfl; exact rfl; apply a_move; (conv => (lhs; whnf)); apply r_callP; exact rfl; exact rfl; exact rfl; exact rfl; exact rfl; infer_instance; exact g_any w0 c t 5; apply r_op; exact rfl; exact rfl; apply g_binOp; exact a_binI rfl rfl rfl; (with_reducible refine runs_done ?_)
    refine W.cond rfl (fun hc => ?_) (fun hc => ?_)
    · refine W.regionL (by decide +kernel) rfl ?_
      apply r_op; exact rfl; exact rfl; apply a_move; (conv => (lhs; whnf)); apply r_callP; exact rfl; exact rfl; exact rfl; exact rfl; exact rfl; infer_instance; exact g_any w0 c t 5; apply r_callP; exact rfl; exact rfl; exact rfl; exact rfl; exact rfl; infer_instance; exact lawtext_any w0 (gL c 5) 30 (by omega) (by omega); apply r_op; exact rfl; exact rfl; apply g_fieldAddr
      exact a_fieldAddrP rfl (by decide); apply r_store; exact rfl; exact rfl; exact rfl; decide; infer_instance; exact rfl; assumption; (conv => (lhs; whnf)); exact rfl; (conv => (lhs; whnf)); exact rfl; exact of_decide_eq_true rfl; exact rfl; (with_reducible refine runs_done ?_)
      exact ⟨{ x1 with note := textL (gL c 5) 30 }, hgr.withNote hlt5, ⟨hup.floor, hup.acks, hup.queue⟩, hs1.set (x' := { x1 with note := textL (gL c 5) 30 }) hne hbx, by exact Has.by (by repeat (first | exact trivial | refine ⟨by first | trivial | exact Weak.refl _ | exact Weak.tok _ _ _ | exact Weak.of_eq (congrArg (AV.int _) (by omega)) | exact Weak.nils _ _ (.inr rfl), ?_⟩))⟩
    · refine W.skip ?_
      exact ⟨x1, hgr, hup, hs1, by exact Has.by (by repeat (first | exact trivial | refine ⟨by first | trivial | exact Weak.refl _ | exact Weak.tok _ _ _ | exact Weak.of_eq (congrArg (AV.int _) (by omega)) | exact Weak.nils _ _ (.inr rfl), ?_⟩))⟩
  · rintro E s ⟨x, hgr, hup, hs, hE⟩
    refine W.has hE ?_; clear hE hs1
    have hb := hs.b
    refine W.seq ?_; refine W.regionL (by decide +kernel) rfl ?_; apply r_op; exact rfl; exact rfl; apply g_fieldAddr; exact a_fieldAddrP rfl (by decide); apply r_load; exact rfl; exact rfl; exact rfl; decide; exact rfl; assumption; exact aLoad1 rfl; apply r_op; exact rfl; exact rfl; apply a_assign; (conv => (lhs; whnf)); refine runs_done ?_; show W _ _ _ _ _ _ _; refine W.seq ?_
    refine W.meet (fun E s => ∃ x ta tq, Grown id clock next x ∧ InSub σ s b8 bx x ta tq ∧ Has [(8, .ptr b8 0), (9, .ptr bx 0)] E) ?_ ?_
    · refine W.seq ?_
      refine W.regionL (by decide +kernel) rfl ?_; apply r_op; exact rfl; exact rfl; apply a_assign; (conv => (lhs; whnf)); (with_reducible refine runs_done ?_); refine W.block ?_
      refine W.loop (fun k E s => ∃ (i : Nat) (seq : Int) (x : Sub) (ta tq : Tok), k = 100 - i ∧ 6 ≤ i ∧ i ≤ 69 ∧ 0 ≤ seq ∧ seq < next ∧ Grown id clock next x ∧ UpTo x seq ∧ InSub σ s b8 bx x ta tq ∧ Has [(0, .slc 1 (aBytes c) t), (2, .int .i64 clock), (3, .int .i64 next), (8, .ptr b8 0), (9, .ptr bx 0), (10, .int .i64 seq), (11, .int .i64 i)] E) 94 ⟨6, x.floor, x, .full, .full, rfl, by omega, by omega, hgr.floor.1, hgr.floor.2, hgr, hup, hs, by exact Has.by (by repeat (first | exact trivial | refine ⟨by first | trivial | exact Weak.refl _ | exact Weak.tok _ _ _ | exact Weak.of_eq (congrArg (AV.int _) (by omega)) | exact Weak.nils _ _ (.inr rfl), ?_⟩))⟩ ?_
      clear hup hs hb hgr x; rintro k E s ⟨i, seq, x, ta, tq, rfl, hi6, hi69, hs0, hsn, hgr, hup, hs, hE⟩; refine W.has hE ?_; clear hE
      have hb := hs.b
      have hla := length_aBytes c
      by_cases hlen : ¬ (i + 3 < c.length)
      · have d1 : decide ((i : Int) + 3 < ((aBytes c).length : Int)) = false := decide_eq_false (by rw [hla]; omega)
        refine W.seq ?_; refine W.seq ?_; refine W.regionL (by decide +kernel) rfl ?_; apply r_op; exact rfl; exact rfl; apply a_move; (conv => (lhs; whnf)); apply r_op; exact rfl; exact rfl; apply g_binOp; exact a_add64 rfl rfl (by omega); apply r_op; exact rfl; exact rfl; apply a_move; (conv => (lhs; whnf)); apply r_op; exact rfl; exact rfl; apply g_call; exact a_len_slc rfl; apply r_op
        exact rfl; exact rfl; apply g_binOp; exact a_binI rfl rfl rfl; apply r_op; exact rfl; exact rfl; apply a_move; (conv => (lhs; whnf)); apply q_skip; exact rfl; exact want_f rfl rfl rfl (by assumption); apply q_skip; exact rfl; exact want_f rfl rfl rfl (by assumption); apply r_op; exact rfl; exact rfl; apply g_pick; apply a_pickF rfl (by assumption); (conv => (lhs; whnf))
        (with_reducible refine runs_done ?_); refine W.condF rfl (by exact rfl) ?_; refine W.exit ?_
        exact ⟨x, ta, tq, hgr, hs, by exact Has.by (by repeat (first | exact trivial | refine ⟨by first | trivial | exact Weak.refl _ | exact Weak.tok _ _ _ | exact Weak.of_eq (congrArg (AV.int _) (by omega)) | exact Weak.nils _ _ (.inr rfl), ?_⟩))⟩
      have hlen := Decidable.of_not_not hlen
      have d1 : decide ((i : Int) + 3 < ((aBytes c).length : Int)) = true := decide_eq_true (by rw [hla]; omega)
      by_cases h66 : ¬ (i < 66)
      · have d2 : decide ((i : Int) < 66) = false := decide_eq_false (by omega)
        refine W.seq ?_; refine W.seq ?_; refine W.regionL (by decide +kernel) rfl ?_; apply r_op; exact rfl; exact rfl; apply a_move; (conv => (lhs; whnf)); apply r_op; exact rfl; exact rfl; apply g_binOp; exact a_add64 rfl rfl (by omega); apply r_op; exact rfl; exact rfl; apply a_move; (conv => (lhs; whnf)); apply r_op; exact rfl; exact rfl; apply g_call; exact a_len_slc rfl; apply r_op
        exact rfl; exact rfl; apply g_binOp; exact a_binI rfl rfl rfl; apply r_op; exact rfl; exact rfl; apply a_move; (conv => (lhs; whnf)); apply r_op; exact rfl; exact want_t rfl rfl rfl (by assumption); apply a_move; (conv => (lhs; whnf)); apply r_op; exact rfl; exact want_t rfl rfl rfl (by assumption); apply g_binOp; exact a_binI rfl rfl rfl; apply r_op; exact rfl; exact rfl; apply g_pick
        apply a_pickT rfl (by assumption); (conv => (lhs; whnf)); (with_reducible refine runs_done ?_); refine W.condF rfl (by assumption) ?_; refine W.exit ?_
        exact ⟨x, ta, tq, hgr, hs, by exact Has.by (by repeat (first | exact trivial | refine ⟨by first | trivial | exact Weak.refl _ | exact Weak.tok _ _ _ | exact Weak.of_eq (congrArg (AV.int _) (by omega)) | exact Weak.nils _ _ (.inr rfl), ?_⟩))⟩
      have h66 := Decidable.of_not_not h66
      have d2 : decide ((i : Int) < 66) = true := decide_eq_true (by omega)
      obtain ⟨q0, gi0⟩ : ∃ q : UInt8, c[((i : Int)).toNat]? = some q := ⟨c[i]'(by omega), by simp⟩
      obtain ⟨q1, gi1⟩ : ∃ q : UInt8, c[((i : Int) + 1).toNat]? = some q := ⟨c[i + 1]'(by omega), by rw [show ((i : Int) + 1).toNat = i + 1 by omega]; simp⟩
      obtain ⟨q2, gi2⟩ : ∃ q : UInt8, c[((i : Int) + 2).toNat]? = some q := ⟨c[i + 2]'(by omega), by rw [show ((i : Int) + 2).toNat = i + 2 by omega]; simp⟩
      obtain ⟨q3, gi3⟩ : ∃ q : UInt8, c[((i : Int) + 3).toNat]? = some q := ⟨c[i + 3]'(by omega), by rw [show ((i : Int) + 3).toNat = i + 3 by omega]; simp⟩
      have l0 := q0.toNat_lt
      have l1 := q1.toNat_lt
      have l2 := q2.toNat_lt
      have l3 := q3.toNat_lt
      have w0' : IntKind.i64.wrap ((q0.toNat : Int) % 3) = (q0.toNat : Int) % 3 := IntWalk.i64_in _ (by omega)
      have w1 : IntKind.i64.wrap (q1.toNat : Int) = (q1.toNat : Int) := IntWalk.i64_in _ (by omega)
      have w2 : IntKind.i64.wrap (q2.toNat : Int) = (q2.toNat : Int) := IntWalk.i64_in _ (by omega)
      have w3 : IntKind.i64.wrap (q3.toNat : Int) = (q3.toNat : Int) := IntWalk.i64_in _ (by omega)
      have hmost := hgr.most
      have hlease := hgr.lease
      have hml := Int.emod_nonneg (IntKind.i64.wrap (q1.toNat : Int)) (show x.lease ≠ 0 by omega)
      have hml2 := Int.emod_lt_of_pos (IntKind.i64.wrap (q1.toNat : Int)) (show 0 < x.lease by omega)
      have hmm := Int.emod_nonneg (IntKind.i64.wrap (q3.toNat : Int)) (show x.most ≠ 0 by omega)
      have hmm2 := Int.emod_lt_of_pos (IntKind.i64.wrap (q3.toNat : Int)) (show 0 < x.most by omega)
      have ht60 : CallP Tryz.prog w0 35 [.int .i64 (IntKind.i64.wrap (q1.toNat : Int)), .int .i64 60] (.str (textL q1.toNat 60)) := by
        rw [w1]; exact lawtext_any w0 q1.toNat 60 (by omega) (by omega)
      have hl60 := textL_len q1.toNat 60
      obtain ⟨at_, hat, hatl⟩ : ∃ v : List UInt8, [AV.str [], .str [97, 61, 49], .str [98, 61, 50]][((q2.toNat : Int) % 3).toNat]? = some (.str v) ∧ (v = [] ∨ v = [97, 61, 49] ∨ v = [98, 61, 50]) := by
        have h : q2.toNat % 3 < 3 := Nat.mod_lt _ (by decide)
        rw [show ((q2.toNat : Int) % 3).toNat = q2.toNat % 3 by omega]
        generalize q2.toNat % 3 = q at h
        match q, h with
        | 0, _ => exact ⟨_, rfl, .inl rfl⟩
        | 1, _ => exact ⟨_, rfl, .inr (.inl rfl)⟩
        | 2, _ => exact ⟨_, rfl, .inr (.inr rfl)⟩
      obtain ⟨wy, hwy, hwyl⟩ : ∃ v : List UInt8, [AV.str [110, 97, 99, 107], .str [116, 105, 109, 101]][((q1.toNat : Int) % 2).toNat]? = some (.str v) ∧ (v = [110, 97, 99, 107] ∨ v = [116, 105, 109, 101]) := by
        have h : q1.toNat % 2 < 2 := Nat.mod_lt _ (by decide)
        rw [show ((q1.toNat : Int) % 2).toNat = q1.toNat % 2 by omega]
        generalize q1.toNat % 2 = q at h
        match q, h with
        | 0, _ => exact ⟨_, rfl, .inl rfl⟩
        | 1, _ => exact ⟨_, rfl, .inr rfl⟩
      have hnq := hgr.nqueue
      have hna := hgr.nacks
      refine W.seq ?_; refine W.seq ?_; refine W.regionL (by decide +kernel) rfl ?_; apply r_op; exact rfl; exact rfl; apply a_move; (conv => (lhs; whnf)); apply r_op; exact rfl; exact rfl; apply g_binOp; exact a_add64 rfl rfl (by omega); apply r_op; exact rfl; exact rfl; apply a_move; (conv => (lhs; whnf)); apply r_op; exact rfl; exact rfl; apply g_call; exact a_len_slc rfl; apply r_op; exact rfl
      exact rfl; apply g_binOp; exact a_binI rfl rfl rfl; apply r_op; exact rfl; exact rfl; apply a_move; (conv => (lhs; whnf)); apply r_op; exact rfl; exact want_t rfl rfl rfl (by assumption); apply a_move; (conv => (lhs; whnf)); apply r_op; exact rfl; exact want_t rfl rfl rfl (by assumption); apply g_binOp; exact a_binI rfl rfl rfl; apply r_op; exact rfl; exact rfl; apply g_pick
      apply a_pickT rfl (by assumption); (conv => (lhs; whnf)); (with_reducible refine runs_done ?_); refine W.condT rfl (by assumption) ?_; refine W.skip ?_; show W _ _ _ _ _ _ _; refine W.seq ?_; refine W.block ?_; refine W.seq ?_; refine W.regionL (by decide +kernel) rfl ?_; apply r_op; exact rfl; exact rfl; apply a_move; (conv => (lhs; whnf)); apply r_op; exact rfl; exact rfl; apply a_move
      (conv => (lhs; whnf)); apply r_op; exact rfl; exact rfl; apply a_move; (conv => (lhs; whnf)); apply r_op; exact rfl; exact rfl; apply g_indexAddr; exact a_indexAddr rfl rfl (by decide) (by omega) (by exact get_bytes (by assumption)); apply r_op; exact rfl; exact rfl; apply g_load; exact a_load1 rfl rfl; apply r_op; exact rfl; exact rfl; apply g_binOp; exact a_rem rfl rfl (by omega)
      apply r_op; exact rfl; exact rfl; apply g_convert; exact a_convI rfl; apply r_op; exact rfl; exact rfl; apply g_binOp; exact a_add64 rfl rfl (by omega); apply r_op; exact rfl; exact rfl; apply g_binOp; exact a_add64 rfl rfl (by omega); apply r_op; exact rfl; exact rfl; apply a_assign; (conv => (lhs; whnf)); (with_reducible refine runs_done ?_); refine W.seq ?_; refine W.seq ?_
      refine W.regionL (by decide +kernel) rfl ?_; apply r_op; exact rfl; exact rfl; apply a_move; (conv => (lhs; whnf)); apply r_op; exact rfl; exact rfl; apply a_move; (conv => (lhs; whnf)); apply r_op; exact rfl; exact rfl; apply g_binOp; exact a_binI rfl rfl rfl; (with_reducible refine runs_done ?_); refine W.cond rfl (fun hc => ?_) (fun hc => ?_)
      · refine W.exit ?_
        exact ⟨x, ta, tq, hgr, hs, by exact Has.by (by repeat (first | exact trivial | refine ⟨by first | trivial | exact Weak.refl _ | exact Weak.tok _ _ _ | exact Weak.of_eq (congrArg (AV.int _) (by omega)) | exact Weak.nils _ _ (.inr rfl), ?_⟩))⟩
      have hsq : seq + (1 + IntKind.i64.wrap ((q0.toNat : Int) % 3)) < next := by have := of_decide_eq_false hc; omega
      have hsq0 : 0 ≤ seq + (1 + IntKind.i64.wrap ((q0.toNat : Int) % 3)) := by omega
      have hsq1 : seq < seq + (1 + IntKind.i64.wrap ((q0.toNat : Int) % 3)) := by omega
      generalize seq + (1 + IntKind.i64.wrap ((q0.toNat : Int) % 3)) = seq1 at hsq hsq0 hsq1 ⊢
      clear hc; refine W.skip ?_; show W _ _ _ _ _ _ _; refine W.seq ?_; refine W.meet (fun E s' => s' = s ∧ Has [(0, .slc 1 (aBytes c) t), (2, .int .i64 clock), (3, .int .i64 next), (8, .ptr b8 0), (9, .ptr bx 0), (10, .int .i64 seq1), (11, .int .i64 i)] E) ?_ ?_
      · have hm0 := Moves.refl hs.ma.room
        refine W.seq ?_; refine W.regionL (by decide +kernel) rfl ?_; apply r_op; exact rfl; exact rfl; apply a_move; (conv => (lhs; whnf)); apply r_op; exact rfl; exact rfl; apply a_move; (conv => (lhs; whnf)); apply r_op; exact rfl; exact rfl; apply g_indexAddr; exact a_indexAddr rfl rfl (by decide) (by omega) (by exact get_bytes (by assumption)); apply r_op; exact rfl; exact rfl; apply g_load
        exact a_load1 rfl rfl; apply r_op; exact rfl; exact rfl; apply g_binOp; exact a_binI rfl rfl rfl; apply r_op; exact rfl; exact rfl; apply a_move; (conv => (lhs; whnf)); refine q_split rfl rfl rfl (fun hg => ?_) (fun hg => ?_); apply r_op; exact rfl; exact want_t rfl rfl rfl (by assumption); apply g_fieldAddr; exact a_fieldAddrP rfl (by decide); apply r_load; exact rfl; exact rfl; exact rfl
        decide; exact want_t rfl rfl rfl (by assumption); assumption; exact aLoad1 rfl; apply r_op; exact rfl; exact want_t rfl rfl rfl (by assumption); apply g_call; exact a_len_slc rfl; apply r_op; exact rfl; exact want_t rfl rfl rfl (by assumption); apply g_binOp; exact a_binI rfl rfl rfl; apply r_op; exact rfl; exact rfl; apply g_pick; apply a_pickT rfl (by assumption); (conv => (lhs; whnf))
        (with_reducible refine runs_done ?_); refine W.cond rfl (fun hc => ?_) (fun hc => ?_); refine W.seq ?_; refine W.regionL (by decide +kernel) rfl ?_; apply r_op; exact rfl; exact rfl; apply g_fieldAddr; exact a_fieldAddrP rfl (by decide); apply r_load; exact rfl; exact rfl; exact rfl; decide; exact rfl; assumption; exact aLoad1 rfl; apply r_op; exact rfl; exact rfl; apply a_move
        (conv => (lhs; whnf)); apply r_op; exact rfl; exact rfl; apply g_buildSlice; apply a_build1; (conv => (lhs; whnf)); exact rfl; exact rfl; decide; apply r_append'; exact rfl; exact rfl; decide; infer_instance; exact rfl; exact rfl; exact rfl; exact rfl; exact rfl; assumption
        simp only [length_aBytes, List.length_append, List.length_cons, List.length_nil, List.length_map, List.length_range]
        omega; intro tk1 σ1 hm; apply r_op; exact rfl; exact rfl; apply g_fieldAddr; exact a_fieldAddrP rfl (by decide); apply r_store; exact rfl; exact rfl; exact rfl; decide; infer_instance; exact rfl; apply hb_moves (by assumption); assumption; (conv => (lhs; whnf)); exact rfl; (conv => (lhs; whnf)); exact rfl; exact of_decide_eq_true rfl; exact rfl; (with_reducible refine runs_done ?_)
        refine W.exit ?_; show W _ _ _ _ _ _ _; refine W.regionL (by decide +kernel) rfl ?_; apply r_op; exact rfl; exact rfl; apply a_move; (conv => (lhs; whnf)); apply r_op; exact rfl; exact rfl; apply g_binOp; exact a_add64 rfl rfl (by omega); apply r_op; exact rfl; exact rfl; apply a_assign; (conv => (lhs; whnf)); (with_reducible refine runs_done ?_); rotate_left; refine W.skip ?_; rotate_left
        apply q_skip; exact rfl; exact want_f rfl rfl rfl (by assumption); apply q_skip; exact rfl; exact want_f rfl rfl rfl (by assumption); apply q_skip; exact rfl; exact want_f rfl rfl rfl (by assumption); apply q_skip; exact rfl; exact want_f rfl rfl rfl (by assumption); apply r_op; exact rfl; exact rfl; apply g_pick; apply a_pickF rfl (by assumption); (conv => (lhs; whnf))
        (with_reducible refine runs_done ?_); refine W.condF rfl (by exact rfl) ?_; refine W.skip ?_; rotate_left
        · have hq20 : x.acks.length < 20 := by have := of_decide_eq_true hc; simp at this; omega
          have h9 := hs.acks (x' := { x with acks := x.acks ++ [seq1] }) hne hbx hm
          simp only [subC, List.map_append, List.map_cons, List.map_nil] at h9
          obtain ⟨k1, k2⟩ := hgr.ack hup hsq1 hsq hq20
          exact ⟨100 - (i + 4), by omega, i + 4, seq1, { x with acks := x.acks ++ [seq1] }, tk1, tq, rfl, by omega, by omega, hsq0, hsq, k1, k2, h9, by exact Has.by (by repeat (first | exact trivial | refine ⟨by first | trivial | exact Weak.refl _ | exact Weak.tok _ _ _ | exact Weak.of_eq (congrArg (AV.int _) (by omega)) | exact Weak.nils _ _ (.inr rfl), ?_⟩))⟩
        · exact ⟨rfl, by exact Has.by (by repeat (first | exact trivial | refine ⟨by first | trivial | exact Weak.refl _ | exact Weak.tok _ _ _ | exact Weak.of_eq (congrArg (AV.int _) (by omega)) | exact Weak.nils _ _ (.inr rfl), ?_⟩))⟩
        · exact ⟨rfl, by exact Has.by (by repeat (first | exact trivial | refine ⟨by first | trivial | exact Weak.refl _ | exact Weak.tok _ _ _ | exact Weak.of_eq (congrArg (AV.int _) (by omega)) | exact Weak.nils _ _ (.inr rfl), ?_⟩))⟩
      · rintro E s' ⟨rfl, hE⟩
        refine W.has hE ?_; clear hE; refine W.seq ?_; refine W.seq ?_; refine W.regionL (by decide +kernel) rfl ?_; apply r_op; exact rfl; exact rfl; apply g_fieldAddr; exact a_fieldAddrP rfl (by decide); apply r_load; exact rfl; exact rfl; exact rfl; decide; exact rfl; assumption; exact aLoad1 rfl; apply r_op; exact rfl; exact rfl; apply g_call; exact a_len_slc rfl; apply r_op; exact rfl
        exact rfl; apply g_binOp; exact a_binI rfl rfl rfl; (with_reducible refine runs_done ?_); refine W.cond rfl (fun hc => ?_) (fun hc => ?_)
        · refine W.exit ?_
          exact ⟨x, ta, tq, hgr, hs, by exact Has.by (by repeat (first | exact trivial | refine ⟨by first | trivial | exact Weak.refl _ | exact Weak.tok _ _ _ | exact Weak.of_eq (congrArg (AV.int _) (by omega)) | exact Weak.nils _ _ (.inr rfl), ?_⟩))⟩
        have hq30 : x.queue.length < 30 := by have := of_decide_eq_false hc; simp at this; omega
        clear hc; refine W.skip ?_; show W _ _ _ _ _ _ _; refine W.seq ?_; refine W.regionDK 0 [] Ty.mixed (by decide +kernel) (by decide +kernel) rfl ?_; apply r_op; exact rfl; exact rfl; apply a_move; (conv => (lhs; whnf)); apply r_op; exact rfl; exact rfl; apply a_move; (conv => (lhs; whnf)); apply r_op; exact rfl; exact rfl; apply a_move; (conv => (lhs; whnf)); apply r_op; exact rfl; exact rfl
        apply g_binOp; exact a_add64 rfl rfl (by omega); apply r_op; exact rfl; exact rfl; apply g_indexAddr; exact a_indexAddr rfl rfl (by decide) (by omega) (by exact get_bytes (by assumption)); apply r_op; exact rfl; exact rfl; apply g_load; exact a_load1 rfl rfl; apply r_op; exact rfl; exact rfl; apply g_convert; exact a_convI rfl; apply r_callP; exact rfl; exact rfl; exact rfl; exact rfl
        exact rfl; infer_instance; exact ht60; apply r_op; exact rfl; exact rfl; apply g_buildSlice; apply a_buildN; apply EvP.cons (by (conv => (lhs; whnf))); apply EvP.cons (by (conv => (lhs; whnf))); apply EvP.cons (by (conv => (lhs; whnf))); exact EvP.nil; (conv => (lhs; whnf)); exact rfl; exact rfl; decide; apply r_op; exact rfl; exact rfl; apply a_move; (conv => (lhs; whnf)); apply r_op
        exact rfl; exact rfl; apply a_move; (conv => (lhs; whnf)); apply r_op; exact rfl; exact rfl; apply g_binOp; exact a_add64 rfl rfl (by omega); apply r_op; exact rfl; exact rfl; apply g_indexAddr; exact a_indexAddr rfl rfl (by decide) (by omega) (by exact get_bytes (by assumption)); apply r_op; exact rfl; exact rfl; apply g_load; exact a_load1 rfl rfl; apply r_op; exact rfl; exact rfl
        apply g_binOp; exact a_rem rfl rfl (by omega); apply r_op; exact rfl; exact rfl; apply g_indexAddr; exact a_indexAddr rfl rfl (by decide) (by omega) (by assumption); apply r_op; exact rfl; exact rfl; apply g_load; exact a_load1 rfl rfl; apply r_op; exact rfl; exact rfl; apply g_build; apply a_build; apply EvP.cons (by (conv => (lhs; whnf))); apply EvP.cons (by (conv => (lhs; whnf)))
        apply EvP.cons (by (conv => (lhs; whnf))); exact EvP.nil
        simp only [aFill, List.getElem?_cons_zero, List.getElem?_cons_succ, AV.cells, List.length_cons, List.length_nil, AV.flat, AV.one, setL, List.set_cons_zero, List.set_cons_succ, Nat.reduceAdd, Nat.reduceLeDiff, Nat.reduceMul, and_self, if_true, ↓reduceIte, Nat.zero_add, Nat.le_refl, List.range, List.range.loop, List.map_cons, List.map_nil, Nat.zero_le]
        rfl; apply r_alloc; exact rfl; exact rfl; decide; exact rfl; (conv => (lhs; whnf)); intro b1 hb1; apply r_store; exact rfl; exact rfl; exact rfl; decide; infer_instance; exact rfl; exact setBox_same; (conv => (lhs; whnf)); exact rfl; (conv => (lhs; whnf)); exact rfl; exact of_decide_eq_true rfl; exact setL_whole rfl; refine runs_done ?_; show W _ _ _ _ _ _ _
        generalize b1 = b12 at hb1 ⊢
        have hb12 : s'.box b12 = none := hb1
        clear hb1
        have hσ12 := none_moves hs.ma hb12
        have h812 : b8 ≠ b12 := (ne_some hs.r hb12).symm
        have hx12 : bx ≠ b12 := (ne_some hs.b hb12).symm
        have h12x : b12 ≠ bx := hx12.symm
        refine W.seq ?_
        refine W.meet (fun E s => ∃ m : Msg, (m.seq = seq1 ∧ m.body.length ≤ 60 ∧ (m.attr = [] ∨ m.attr = [97, 61, 49] ∨ m.attr = [98, 61, 50]) ∧ (0 ≤ m.prio ∧ m.prio ≤ 9) ∧ m.tries = 0 ∧ m.until_ = 0 ∧ m.dead = false ∧ m.why = []) ∧ s = s'.setBox b12 (msgC m) ∧ Has [(0, .slc 1 (aBytes c) t), (2, .int .i64 clock), (3, .int .i64 next), (8, .ptr b8 0), (9, .ptr bx 0), (10, .int .i64 seq1), (11, .int .i64 i), (12, .ptr b12 0)] E) ?_ ?_
        · refine W.seq ?_
          refine W.regionL (by decide +kernel) rfl ?_; apply r_op; exact rfl; exact rfl; apply a_move; (conv => (lhs; whnf)); apply r_op; exact rfl; exact rfl; apply a_move; (conv => (lhs; whnf)); apply r_op; exact rfl; exact rfl; apply g_binOp; exact a_add64 rfl rfl (by omega); apply r_op; exact rfl; exact rfl; apply g_indexAddr
          exact a_indexAddr rfl rfl (by decide) (by omega) (by exact get_bytes (by assumption)); apply r_op; exact rfl; exact rfl; apply g_load; exact a_load1 rfl rfl; apply r_op; exact rfl; exact rfl; apply g_binOp; exact a_binI rfl rfl rfl; (with_reducible refine runs_done ?_); refine W.cond rfl (fun hc => ?_) (fun hc => ?_); refine W.regionL (by decide +kernel) rfl ?_; apply r_op; exact rfl
          exact rfl; apply a_move; (conv => (lhs; whnf)); apply r_op; exact rfl; exact rfl; apply a_move; (conv => (lhs; whnf)); apply r_op; exact rfl; exact rfl; apply g_binOp; exact a_add64 rfl rfl (by omega); apply r_op; exact rfl; exact rfl; apply g_indexAddr; exact a_indexAddr rfl rfl (by decide) (by omega) (by exact get_bytes (by assumption)); apply r_op; exact rfl; exact rfl; apply g_load
          exact a_load1 rfl rfl; apply r_op; exact rfl; exact rfl; apply g_convert; exact a_convI rfl; apply r_op; exact rfl; exact rfl; apply g_binOp; exact a_rem rfl rfl (by omega); apply r_op; exact rfl; exact rfl; apply g_fieldAddr; exact a_fieldAddrP rfl (by decide); apply r_store; exact rfl; exact rfl; exact rfl; decide; infer_instance; exact rfl; exact setBox_same; (conv => (lhs; whnf))
          exact rfl; (conv => (lhs; whnf)); exact rfl; exact of_decide_eq_true rfl; exact rfl; (with_reducible refine runs_done ?_); rotate_left; refine W.skip ?_; rotate_left
          · exact ⟨⟨seq1, textL q1.toNat 60, at_, 0, 0, false, [], IntKind.i64.wrap (q2.toNat : Int) % 10⟩, ⟨rfl, hl60, hatl, by constructor <;> (show _ ≤ _; dsimp only; omega), rfl, rfl, rfl, rfl⟩, by simp only [setBox_setBox]; rfl, by exact Has.by (by repeat (first | exact trivial | refine ⟨by first | trivial | exact Weak.refl _ | exact Weak.tok _ _ _ | exact Weak.of_eq (congrArg (AV.int _) (by omega)) | exact Weak.nils _ _ (.inr rfl), ?_⟩))⟩
          · exact ⟨⟨seq1, textL q1.toNat 60, at_, 0, 0, false, [], 0⟩, ⟨rfl, hl60, hatl, (show (0 : Int) ≤ 0 ∧ (0 : Int) ≤ 9 from ⟨by decide, by decide⟩), rfl, rfl, rfl, rfl⟩, by simp only [setBox_setBox]; rfl, by exact Has.by (by repeat (first | exact trivial | refine ⟨by first | trivial | exact Weak.refl _ | exact Weak.tok _ _ _ | exact Weak.of_eq (congrArg (AV.int _) (by omega)) | exact Weak.nils _ _ (.inr rfl), ?_⟩))⟩
        · rintro E s2 ⟨m, ⟨ms, mb, ma, mp, mt, mu, md, mw⟩, rfl, hE⟩
          refine W.has hE ?_; clear hE; refine W.seq ?_; refine W.meet (fun E s => ∃ m : Msg, (m.seq = seq1 ∧ MsgOk clock x.most x.lease m) ∧ s = s'.setBox b12 (msgC m) ∧ Has [(0, .slc 1 (aBytes c) t), (2, .int .i64 clock), (3, .int .i64 next), (8, .ptr b8 0), (9, .ptr bx 0), (10, .int .i64 seq1), (11, .int .i64 i), (12, .ptr b12 0)] E) ?_ ?_
          · refine W.seq ?_
            refine W.regionL (by decide +kernel) rfl ?_; apply r_op; exact rfl; exact rfl; apply a_move; (conv => (lhs; whnf)); apply r_op; exact rfl; exact rfl; apply a_move; (conv => (lhs; whnf)); apply r_op; exact rfl; exact rfl; apply g_binOp; exact a_add64 rfl rfl (by omega); apply r_op; exact rfl; exact rfl; apply g_indexAddr
            exact a_indexAddr rfl rfl (by decide) (by omega) (by exact get_bytes (by assumption)); apply r_op; exact rfl; exact rfl; apply g_load; exact a_load1 rfl rfl; apply r_op; exact rfl; exact rfl; apply g_binOp; exact a_rem rfl rfl (by omega); (with_reducible refine runs_done ?_); refine W.block ?_; refine W.seq ?_; refine W.regionL (by decide +kernel) rfl ?_; apply r_op; exact rfl; exact rfl
            apply g_binOp; exact a_binI rfl rfl rfl; apply r_op; exact rfl; exact rfl; apply a_assign; (conv => (lhs; whnf)); (with_reducible refine runs_done ?_); refine W.cond rfl (fun hc => ?_) (fun hc => ?_); refine W.regionDK 1 [] Ty.mixed (by decide +kernel) (by decide +kernel) rfl ?_; apply r_op; exact rfl; exact rfl; apply a_move; (conv => (lhs; whnf)); apply r_op; exact rfl; exact rfl
            apply a_move; (conv => (lhs; whnf)); apply r_op; exact rfl; exact rfl; apply g_binOp; exact a_add64 rfl rfl (by omega); apply r_op; exact rfl; exact rfl; apply g_indexAddr; exact a_indexAddr rfl rfl (by decide) (by omega) (by exact get_bytes (by assumption)); apply r_op; exact rfl; exact rfl; apply g_load; exact a_load1 rfl rfl; apply r_op; exact rfl; exact rfl; apply g_convert
            exact a_convI rfl; apply r_op; exact rfl; exact rfl; apply g_fieldAddr; exact a_fieldAddrP rfl (by decide); apply r_load; exact rfl; exact rfl; exact rfl; decide; exact rfl; apply hb_ne (by assumption); assumption; exact aLoad1 rfl; apply r_op; exact rfl; exact rfl; apply g_binOp; exact a_rem rfl rfl (by omega); apply r_op; exact rfl; exact rfl; apply g_fieldAddr
            exact a_fieldAddrP rfl (by decide); apply r_store; exact rfl; exact rfl; exact rfl; decide; infer_instance; exact rfl; exact setBox_same; (conv => (lhs; whnf)); exact rfl; (conv => (lhs; whnf)); exact rfl; exact of_decide_eq_true rfl; exact rfl; (with_reducible refine runs_done ?_); rotate_left; refine W.seq ?_; refine W.regionL (by decide +kernel) rfl ?_; apply r_op; exact rfl; exact rfl
            apply g_binOp; exact a_binI rfl rfl rfl; apply r_op; exact rfl; exact rfl; apply a_assign; (conv => (lhs; whnf)); (with_reducible refine runs_done ?_); refine W.cond rfl (fun hc => ?_) (fun hc => ?_); refine W.seq ?_; refine W.regionDK 1 [] Ty.mixed (by decide +kernel) (by decide +kernel) rfl ?_; apply r_op; exact rfl; exact rfl; apply a_move; (conv => (lhs; whnf)); apply r_op; exact rfl
            exact rfl; apply a_move; (conv => (lhs; whnf)); apply r_op; exact rfl; exact rfl; apply g_binOp; exact a_add64 rfl rfl (by omega); apply r_op; exact rfl; exact rfl; apply g_indexAddr; exact a_indexAddr rfl rfl (by decide) (by omega) (by exact get_bytes (by assumption)); apply r_op; exact rfl; exact rfl; apply g_load; exact a_load1 rfl rfl; apply r_op; exact rfl; exact rfl
            apply g_convert; exact a_convI rfl; apply r_op; exact rfl; exact rfl; apply g_fieldAddr; exact a_fieldAddrP rfl (by decide); apply r_load; exact rfl; exact rfl; exact rfl; decide; exact rfl; apply hb_ne (by assumption); assumption; exact aLoad1 rfl; apply r_op; exact rfl; exact rfl; apply g_binOp; exact a_rem rfl rfl (by omega); apply r_op; exact rfl; exact rfl; apply g_binOp
            exact a_add64 rfl rfl (by omega); apply r_op; exact rfl; exact rfl; apply g_fieldAddr; exact a_fieldAddrP rfl (by decide); apply r_store; exact rfl; exact rfl; exact rfl; decide; infer_instance; exact rfl; exact setBox_same; (conv => (lhs; whnf)); exact rfl; (conv => (lhs; whnf)); exact rfl; exact of_decide_eq_true rfl; exact rfl; (with_reducible refine runs_done ?_)
            refine W.regionDK 1 [] Ty.mixed (by decide +kernel) (by decide +kernel) rfl ?_; apply r_op; exact rfl; exact rfl; apply a_move; (conv => (lhs; whnf)); apply r_op; exact rfl; exact rfl; apply g_binOp; exact a_add64 rfl rfl (by omega); apply r_op; exact rfl; exact rfl; apply a_move; (conv => (lhs; whnf)); apply r_op; exact rfl; exact rfl; apply a_move; (conv => (lhs; whnf)); apply r_op
            exact rfl; exact rfl; apply g_binOp; exact a_add64 rfl rfl (by omega); apply r_op; exact rfl; exact rfl; apply g_indexAddr; exact a_indexAddr rfl rfl (by decide) (by omega) (by exact get_bytes (by assumption)); apply r_op; exact rfl; exact rfl; apply g_load; exact a_load1 rfl rfl; apply r_op; exact rfl; exact rfl; apply g_convert; exact a_convI rfl; apply r_op; exact rfl; exact rfl
            apply g_fieldAddr; exact a_fieldAddrP rfl (by decide); apply r_load; exact rfl; exact rfl; exact rfl; decide; exact rfl; apply hb_ne (by assumption); apply hb_ne (by assumption); assumption; exact aLoad1 rfl; apply r_op; exact rfl; exact rfl; apply g_binOp; exact a_rem rfl rfl (by omega); apply r_op; exact rfl; exact rfl; apply g_binOp; exact a_add64 rfl rfl (by omega); apply r_op
            exact rfl; exact rfl; apply g_fieldAddr; exact a_fieldAddrP rfl (by decide); apply r_store; exact rfl; exact rfl; exact rfl; decide; infer_instance; exact rfl; exact setBox_same; (conv => (lhs; whnf)); exact rfl; (conv => (lhs; whnf)); exact rfl; exact of_decide_eq_true rfl; exact rfl; (with_reducible refine runs_done ?_); rotate_left; refine W.seq ?_
            refine W.regionL (by decide +kernel) rfl ?_; apply r_op; exact rfl; exact rfl; apply g_binOp; exact a_binI rfl rfl rfl; apply r_op; exact rfl; exact rfl; apply a_assign; (conv => (lhs; whnf)); (with_reducible refine runs_done ?_); refine W.cond rfl (fun hc => ?_) (fun hc => ?_); refine W.seq ?_; refine W.regionL (by decide +kernel) rfl ?_; apply r_op; exact rfl; exact rfl
            apply g_fieldAddr; exact a_fieldAddrP rfl (by decide); apply r_store; exact rfl; exact rfl; exact rfl; decide; infer_instance; exact rfl; exact setBox_same; (conv => (lhs; whnf)); exact rfl; (conv => (lhs; whnf)); exact rfl; exact of_decide_eq_true rfl; exact rfl; (with_reducible refine runs_done ?_); refine W.seq ?_; refine W.regionL (by decide +kernel) rfl ?_; apply r_op; exact rfl
            exact rfl; apply g_fieldAddr; exact a_fieldAddrP rfl (by decide); apply r_load; exact rfl; exact rfl; exact rfl; decide; exact rfl; apply hb_ne (by assumption); apply hb_ne (by assumption); assumption; exact aLoad1 rfl; apply r_op; exact rfl; exact rfl; apply g_fieldAddr; exact a_fieldAddrP rfl (by decide); apply r_store; exact rfl; exact rfl; exact rfl; decide; infer_instance
            exact rfl; exact setBox_same; (conv => (lhs; whnf)); exact rfl; (conv => (lhs; whnf)); exact rfl; exact of_decide_eq_true rfl; exact rfl; (with_reducible refine runs_done ?_); refine W.regionL (by decide +kernel) rfl ?_; apply r_op; exact rfl; exact rfl; apply g_buildSlice; apply a_buildN; apply EvP.cons (by (conv => (lhs; whnf))); apply EvP.cons (by (conv => (lhs; whnf))); exact EvP.nil
            (conv => (lhs; whnf)); exact rfl; exact rfl; decide; apply r_op; exact rfl; exact rfl; apply a_move; (conv => (lhs; whnf)); apply r_op; exact rfl; exact rfl; apply a_move; (conv => (lhs; whnf)); apply r_op; exact rfl; exact rfl; apply g_binOp; exact a_add64 rfl rfl (by omega); apply r_op; exact rfl; exact rfl; apply g_indexAddr
            exact a_indexAddr rfl rfl (by decide) (by omega) (by exact get_bytes (by assumption)); apply r_op; exact rfl; exact rfl; apply g_load; exact a_load1 rfl rfl; apply r_op; exact rfl; exact rfl; apply g_binOp; exact a_rem rfl rfl (by omega); apply r_op; exact rfl; exact rfl; apply g_indexAddr; exact a_indexAddr rfl rfl (by decide) (by omega) (by assumption); apply r_op; exact rfl
            exact rfl; apply g_load; exact a_load1 rfl rfl; apply r_op; exact rfl; exact rfl; apply g_fieldAddr; exact a_fieldAddrP rfl (by decide); apply r_store; exact rfl; exact rfl; exact rfl; decide; infer_instance; exact rfl; exact setBox_same; (conv => (lhs; whnf)); exact rfl; (conv => (lhs; whnf)); exact rfl; exact of_decide_eq_true rfl; exact rfl; (with_reducible refine runs_done ?_)
            rotate_left; refine W.skip ?_; rotate_left
            · exact ⟨{ m with tries := IntKind.i64.wrap (q3.toNat : Int) % x.most }, ⟨ms, mb, ma, mp, .inl ⟨md, mw, mu, hmm, hmm2⟩⟩, by simp only [setBox_setBox]; rfl, by exact Has.by (by repeat (first | exact trivial | refine ⟨by first | trivial | exact Weak.refl _ | exact Weak.tok _ _ _ | exact Weak.of_eq (congrArg (AV.int _) (by omega)) | exact Weak.nils _ _ (.inr rfl), ?_⟩))⟩
            · exact ⟨{ m with tries := 1 + IntKind.i64.wrap (q3.toNat : Int) % x.most, until_ := (clock : Int) + 1 + IntKind.i64.wrap (q1.toNat : Int) % x.lease }, ⟨ms, mb, ma, mp, .inr (.inl ⟨md, mw, by constructor <;> (dsimp only; omega), by constructor <;> (dsimp only; omega)⟩)⟩, by simp only [setBox_setBox]; rfl, by exact Has.by (by repeat (first | exact trivial | refine ⟨by first | trivial | exact Weak.refl _ | exact Weak.tok _ _ _ | exact Weak.of_eq (congrArg (AV.int _) (by omega)) | exact Weak.nils _ _ (.inr rfl), ?_⟩))⟩
            · exact ⟨{ m with dead := true, tries := x.most, why := wy }, ⟨ms, mb, ma, mp, .inr (.inr ⟨rfl, mu, rfl, hwyl⟩)⟩, by simp only [setBox_setBox]; rfl, by exact Has.by (by repeat (first | exact trivial | refine ⟨by first | trivial | exact Weak.refl _ | exact Weak.tok _ _ _ | exact Weak.of_eq (congrArg (AV.int _) (by omega)) | exact Weak.nils _ _ (.inr rfl), ?_⟩))⟩
            · exact ⟨m, ⟨ms, mb, ma, mp, .inl ⟨md, mw, mu, by omega, by omega⟩⟩, rfl, by exact Has.by (by repeat (first | exact trivial | refine ⟨by first | trivial | exact Weak.refl _ | exact Weak.tok _ _ _ | exact Weak.of_eq (congrArg (AV.int _) (by omega)) | exact Weak.nils _ _ (.inr rfl), ?_⟩))⟩
          · rintro E s3 ⟨m, ⟨ms, hma⟩, rfl, hE⟩
            refine W.has hE ?_; clear hE
            have hs3 := hs.other (cs := msgC m) h812 hx12 hσ12
            have hb3 := hs3.b
            have hm0 := Moves.refl hs3.mq.room
            refine W.regionL (by decide +kernel) rfl ?_; apply r_op; exact rfl; exact rfl; apply g_fieldAddr; exact a_fieldAddrP rfl (by decide); apply r_load; exact rfl; exact rfl; exact rfl; decide; exact rfl; assumption; exact aLoad1 rfl; apply r_load; exact rfl; exact rfl; exact rfl; decide; exact rfl; exact setBox_same; exact aLoadA rfl (by rfl) rfl; apply r_op; exact rfl; exact rfl
            apply g_buildSlice; apply a_build1; (conv => (lhs; whnf)); exact rfl; exact rfl; decide; apply r_append'; exact rfl; exact rfl; decide; infer_instance; exact rfl; exact rfl; exact rfl; exact rfl; exact rfl; assumption
            simp only [length_aBytes, List.length_append, List.length_cons, List.length_nil, List.length_map, List.length_range]
            omega; intro tk1 σ1 hm; apply r_op; exact rfl; exact rfl; apply g_fieldAddr; exact a_fieldAddrP rfl (by decide); apply r_store; exact rfl; exact rfl; exact rfl; decide; infer_instance; exact rfl; apply hb_moves (by assumption); assumption; (conv => (lhs; whnf)); exact rfl; (conv => (lhs; whnf)); exact rfl; exact of_decide_eq_true rfl; exact rfl; (with_reducible refine runs_done ?_)
            refine W.regionL (by decide +kernel) rfl ?_; apply r_op; exact rfl; exact rfl; apply a_move; (conv => (lhs; whnf)); apply r_op; exact rfl; exact rfl; apply g_binOp; exact a_add64 rfl rfl (by omega); apply r_op; exact rfl; exact rfl; apply a_assign; (conv => (lhs; whnf)); (with_reducible refine runs_done ?_)
            have h9 := hs3.queue (x' := { x with queue := x.queue ++ [m] }) hne hbx hm
            simp only [subC, List.map_append, List.map_cons, List.map_nil] at h9
            obtain ⟨k1, k2⟩ := hgr.msg hup (by rw [ms]; exact hsq1) (by rw [ms]; exact hsq) hq30 hma
            rw [ms] at k2
            exact ⟨100 - (i + 4), by omega, i + 4, seq1, { x with queue := x.queue ++ [m] }, ta, tk1, rfl, by omega, by omega, hsq0, hsq, k1, k2, h9, by exact Has.by (by repeat (first | exact trivial | refine ⟨by first | trivial | exact Weak.refl _ | exact Weak.tok _ _ _ | exact Weak.of_eq (congrArg (AV.int _) (by omega)) | exact Weak.nils _ _ (.inr rfl), ?_⟩))⟩
    · rintro E s ⟨x, ta, tq, hgr, hs, hE⟩
      refine W.has hE ?_; clear hE
      have hb := hs.b
      have hr := hs.r
      refine W.seq ?_; refine W.regionL (by decide +kernel) rfl ?_; apply r_load; exact rfl; exact rfl; exact rfl; decide; exact rfl; assumption; exact aLoadA rfl (by rfl) rfl; apply r_store; exact rfl; exact rfl; exact rfl; decide; infer_instance; exact rfl; assumption; (conv => (lhs; whnf)); exact rfl; (conv => (lhs; whnf)); exact rfl; exact of_decide_eq_true rfl; exact setL_whole rfl
      (with_reducible refine runs_done ?_); refine W.ret ?_; show Q Exit.ret _ _; refine post_le (σ' := σ) hQ (by apply res_cell; exact rfl; exact setBox_same; exact aLoadA rfl (by rfl) rfl; exact res_nil) rfl (weak_sub x ta tq) (le_setBox hs.ma.le hb8) ?_ (.inl rfl)
      exact ⟨x, rfl, hgr, rfl⟩
end Go.Proofs.YtkbmkhhcppfcnaaGreatDoor
end
section
set_option linter.unusedVariables false
namespace Go.Proofs.YtkbmkhhcppfcnaaGreatDoor
open Go.Al
theorem tot_bound2 : ∀ (l : List Row) (n : Nat), (∀ r ∈ l, r.val.length ≤ n) → tot l ≤ l.length * (n + 1)
  | [], n, _ => by simp [tot]
  | r :: l, n, h => by
    have h1 := tot_bound2 l n fun x hx => h x (by simp [hx])
    have h2 := h r (by simp)
    have h3 : tot (r :: l) = r.val.length + 1 + tot l := by simp [tot]
    have h4 : (r :: l).length * (n + 1) = l.length * (n + 1) + (n + 1) := by simp [Nat.add_mul, Nat.add_comm]
    omega
end Go.Proofs.YtkbmkhhcppfcnaaGreatDoor
end
section
set_option linter.unusedVariables false
set_option linter.unusedSimpArgs false
set_option maxRecDepth 100000
set_option maxHeartbeats 1000000
namespace Go.Proofs.YtkbmkhhcppfcnaaGreatDoor
open Go.Al Go.RowKit
theorem cl_nat {n : Nat} (h : n ≤ 9999999999) : cl (n : Int) = n := by unfold cl; omega
theorem parts_key (w0 : Base) (hL : Laid w0) (v : Nat) (hv : v < 10) (t : UInt8) (ht : 97 ≤ t.toNat ∧ t.toNat ≤ 122) (id seq : Nat) (hid : id ≤ 9999999999) (hseq : seq ≤ 9999999999) :
    CallP Tryz.prog w0 43 [.str (rkey v t id seq)] (.tup [.int .i64 v, .int .u8 t.toNat, .int .i64 id, .int .i64 seq, .bool true]) := by
  have hk := rkey_length v t id seq
  have hA := dN_length 10 (cl id)
  have hB := dN_length 10 (cl seq)
  have i1 := atoi_dN 9 (cl id) (cl_lt _)
  have i2 := atoi_dN 9 (cl seq) (cl_lt _)
  have hc : (UInt8.ofNat (48 + v)).toNat = 48 + v := by simp; omega
  have hK := keyS_any w0 hL v hv t id seq
  have hbyte : IntKind.i64.wrap (((Al.byteOf (((UInt8.ofNat (48 + v)).toNat : Int) - 48)).toNat : Nat) : Int) = ((v : Nat) : Int) := by
    rw [sub48 (by omega), hc]; congr 1; omega
  have hv' : (UInt8.ofNat (48 + v)).toNat - 48 = v := by omega
  have e1 : ((rkey v t id seq).take (12 : Int).toNat).drop (2 : Int).toNat = dN 10 (cl id) := by
    show ((dN 10 (cl id)) ++ (dN 10 (cl seq))).take 10 = _
    rw [List.take_append_of_le_length (by omega), List.take_of_length_le (by omega)]
  have e2 : ((rkey v t id seq).take (((rkey v t id seq).length : Nat) : Int).toNat).drop (12 : Int).toNat = dN 10 (cl seq) := by
    rw [Int.toNat_natCast, List.take_length]
    show ((dN 10 (cl id)) ++ (dN 10 (cl seq))).drop 10 = _
    rw [List.drop_append_of_le_length (by omega), List.drop_of_length_le (by omega)]; rfl
  have := parts_any w0 (rkey v t id seq) (UInt8.ofNat (48 + v)) t id seq hk rfl rfl (by omega) ht (by rw [e1]; have := atoi_any w0 hL (dN 10 (cl id)) (cl id : Nat) (by omega) i1; rwa [cl_nat hid] at this ⊢) (by rw [e2]; have := atoi_any w0 hL (dN 10 (cl seq)) (cl seq : Nat) (by omega) i2; rwa [cl_nat hseq] at this ⊢) (by rw [hbyte]; exact hK)
  rwa [hv'] at this
def V0 : List UInt8 := [1, 110, 1, 35, 0, 1, 1, 0, 0]
def x0 : Sub := ⟨1, [110], [35], [], 1, 1, 0, [], [], []⟩
def z0 : Sub := ⟨0, [], [], [], 0, 0, 0, [], [], []⟩
def row0 : Row := ⟨rkey 3 115 1 0, V0⟩
theorem num1 : num 1 = [1] := by unfold num; rw [show clampN 1 = 1 from rfl, numB_small (by decide)]; rfl
theorem num0 : num 0 = [0] := by unfold num; rw [show clampN 0 = 0 from rfl, numB_small (by decide)]; rfl
theorem enc_x0 : enc3 x0 = [row0] := by
  have : subB x0 = V0 := by simp [subB, x0, txt, num1, num0, V0]
  simp [enc3, x0] at this ⊢
  rw [this]; rfl
theorem fits_x0 : Fits x0 := ⟨by decide, by decide, by decide, by decide, by decide, by decide, by simp [x0]⟩
theorem fits_z0 : Fits z0 := ⟨by decide, by decide, by decide, by decide, by decide, by decide, by simp [z0]⟩
def xA : AV := .agg [.int .i64 1, .str [110], .str [35], .str [], .int .i64 1, .int .i64 1, .int .i64 0, .nils, .nils, .str []]
def zA : AV := .agg [.int .i64 0, .str [], .str [], .str [], .int .i64 0, .int .i64 0, .int .i64 0, .nils, .nils, .str []]
theorem weak_x0 : Weak (eSub x0) xA := .agg (.cons (.refl _) (.cons (.refl _) (.cons (.refl _) (.cons (.refl _) (.cons (.refl _) (.cons (.refl _) (.cons (.refl _) (.cons (.nils _ _ (.inl rfl)) (.cons (.nils _ _ (.inl rfl)) (.cons (.refl _) .nil)))))))))) (by decide)
theorem weak_z0 : Weak (eSub z0) zA := .agg (.cons (.refl _) (.cons (.refl _) (.cons (.refl _) (.cons (.refl _) (.cons (.refl _) (.cons (.refl _) (.cons (.refl _) (.cons (.nils _ _ (.inl rfl)) (.cons (.nils _ _ (.inl rfl)) (.cons (.refl _) .nil)))))))))) (by decide)
theorem enc_xA (w0 : Base) (hL : Laid w0) : CallP Tryz.prog w0 16 [xA] (.slc 2 [eRow row0] .no) := fun σ => by
  have := (encW_room w0 hL x0 fits_x0 σ).room
  rw [enc_x0] at this
  exact CallW.weak1 [] [] weak_x0 this
theorem enc_zA (w0 : Base) (hL : Laid w0) : CallP Tryz.prog w0 16 [zA] (.slc 2 ((enc3 z0).map eRow) .no) := fun σ =>
  CallW.weak1 [] [] weak_z0 (encW_room w0 hL z0 fits_z0 σ).room
theorem rt (w0 : Base) {b : Nat} {σ : St} (a a' : Nat) (s : List UInt8) (ha : a ≤ 10) (h : rText V0 a none 30 = (s, a', none)) (hb : σ.box b = some (rd V0 a none)) : CallW Tryz.prog w0 55 [.ptr b 0, .int .i64 30] σ (fun r s' => r = .str s ∧ s' = σ.setBox b (rd V0 a' none)) := by
  have := rtext_any w0 V0 a 30 none b σ (by decide) (by omega) (by decide) hb
  rw [h] at this
  exact this
theorem rn (w0 : Base) {b : Nat} {σ : St} (a a' n : Nat) (ha : a ≤ 10) (h : rNum V0 a none = (n, a', none)) (hb : σ.box b = some (rd V0 a none)) : CallW Tryz.prog w0 53 [.ptr b 0] σ (fun r s' => r = .int .i64 n ∧ s' = σ.setBox b (rd V0 a' none)) := by
  have := rnum_any w0 V0 a none b σ (by decide) (by omega) hb
  rw [h] at this
  exact this
end Go.Proofs.YtkbmkhhcppfcnaaGreatDoor
end
