/- The law StateChanges returns true for every input, and its arguments read as before: the tied card. No conditions. This is part 5 of 7 of its proof; the parts are read in order. No conditions. -/
import Derived.Test.YtgliemhhnkhboaaGreatDoorCStateChangesP4
section
set_option linter.unusedVariables false
set_option linter.unusedSimpArgs false
set_option maxRecDepth 100000
set_option maxHeartbeats 2000000
namespace Go.Proofs.YtgliemhhnkhboaaGreatDoor
open Go.Al Go.RowKit
structure Stt where
  clock : Int
  next : Int
  last : Int
  subs : List Sub
def eSubs (l : List Sub) : AV := .slc 10 (l.map eSub) .no
def eStt (s : Stt) : AV := .agg [.int .i64 s.clock, .int .i64 s.next, .int .i64 s.last, eSubs s.subs]
theorem eSub_sz (l : List Sub) : ∀ x ∈ l.map eSub, x.cells.length = 10 ∧ ∀ c ∈ x.cells, c.one = true := fun x hx => by
  obtain ⟨y, _, rfl⟩ := List.mem_map.1 hx
  exact ⟨rfl, fun c hc => by
    simp only [eSub, AV.cells, List.mem_cons, List.not_mem_nil, or_false] at hc
    rcases hc with rfl | rfl | rfl | rfl | rfl | rfl | rfl | rfl | rfl | rfl <;> rfl⟩
structure Fine (l : List Sub) : Prop where
  n : l.length ≤ 977343669120
  a : ∀ x ∈ l, x.acks.length ≤ 17592186043904
  q : ∀ x ∈ l, x.queue.length ≤ 1599289640354
def findR (o : Option Sub) : AV := match o with
  | some x => .tup [eSub x, .bool true]
  | none => .tup [eSub sub0, .bool false]
theorem weak_sub0 : Weak (eSub sub0) (.agg [.int .i64 0, .str [], .str [], .str [], .int .i64 0, .int .i64 0, .int .i64 0, .nils, .nils, .str []]) :=
  .agg (.cons (.refl _) (.cons (.refl _) (.cons (.refl _) (.cons (.refl _) (.cons (.refl _) (.cons (.refl _) (.cons (.refl _) (.cons (.nils 1 .no (.inl rfl)) (.cons (.nils 8 .no (.inl rfl)) (.cons (.refl _) .nil)))))))))) (by simp [AV.one, eInts, eMsgs])
theorem find_any (w0 : Base) (s : Stt) (id : Int) (hf : Fine s.subs) : CallP Tryz.prog w0 14 [eStt s, .int .i64 id] (findR (fnd s.subs id)) := by
  refine CallP.h Ty.tok Ty.mixed Tryz.func14 rfl Tryz.ntmps14 rfl (by simp) (by decide +kernel) fun σ => ?_
  obtain ⟨clock, next, last, l⟩ := s
  dsimp only at hf ⊢
  (conv => whnf); refine Hid.seq ?_; refine Hid.reg ?_; (conv => whnf); refine SBox.f ?_; (conv => whnf); intro b4 hb4; (conv => whnf); refine Hid.seq ?_; refine Hid.seq ?_; refine Hid.reg ?_; (conv => whnf); refine Hid.block ?_; refine Hid.loop ?_
  refine SLoop.by Ty.mixed (fun i : Nat => l.length - i) (fun i => [(1, .int .i64 id), (4, .ptr b4 0), (9, eSubs l), (10, .int .i64 l.length), (11, .int .i64 i)]) (fun _ => [(b4, [.int .i64 0, .str [], .str [], .str [], .int .i64 0, .int .i64 0, .int .i64 0, .nils, .nils, .str []])]) (fun i τ => i ≤ l.length ∧ fnd (l.drop i) id = fnd l id ∧ St.Le σ τ) 0 ⟨?_, .refl _, Nat.zero_le _, rfl, le_new (.refl _) hb4⟩ ?_
  · show xWeak [(1, .int .i64 id), (4, .ptr b4 0), (9, eSubs l), (10, .int .i64 l.length), (11, .int .i64 (0 : Nat))] _
    rw [show l.length = (l.map eSub).length by simp]
    repeat (first | exact trivial | refine ⟨by first | trivial | exact Weak.refl _ | exact Weak.tok _ _ _ | exact Weak.of_eq (congrArg (AV.int _) (by omega)) | exact Weak.of_eq (congrArg AV.bool (by fail)) | exact Weak.nils _ _ (.inr rfl), ?_⟩)
  rintro i τ ⟨hi, hd, hle⟩; refine Xc_h ?_; (conv => whnf); refine Hid.seq ?_; refine Hid.reg ?_; (conv => whnf); refine Hid.seq ?_; refine Hid.cond rfl ?_
  skip
  refine SIf.x Ty.mixed (fun hc => ?_) (fun hc => ?_); refine Xc_h ?_; (conv => whnf); refine Hid.skip ?_; (conv => whnf); refine Hid.seq ?_; refine Hid.seq ?_; refine Hid.reg ?_; (conv => whnf); rotate_left; refine Xc_h ?_; (conv => whnf); refine Hid.exit ?_; (conv => whnf); refine Hid.seq ?_; refine Hid.reg ?_; (conv => whnf)
  rotate_right
  · have hlt : i < l.length := by simp at hc; omega
    have ga : (l.map eSub)[i]? = some (eSub l[i]) := by simp [hlt]
    have hxa := hf.a _ (List.getElem_mem hlt)
    have hxq := hf.q _ (List.getElem_mem hlt)
    have hn := hf.n
    rw [List.drop_eq_getElem_cons hlt, fnd, List.find?_cons] at hd
    generalize l[i] = x at *
    refine ⟨_, ⟨by first | omega | (simp only [List.length_map]; omega), by exact ga⟩, ?_⟩
    (conv => whnf); intro b7 hb7; (conv => whnf); refine SStore.on 0 rfl ?_; (conv => whnf); refine Hid.seq ?_; refine Hid.reg ?_; (conv => whnf); refine SLoad.on 0 rfl ?_; (conv => whnf); refine Hid.cond rfl ?_; refine SIf.x Ty.mixed (fun hc => ?_) (fun hc => ?_); refine Xc_h ?_; (conv => whnf); refine Hid.seq ?_; refine Hid.reg ?_; (conv => whnf); rotate_left; refine Xc_h ?_; (conv => whnf)
    refine Hid.skip ?_; (conv => whnf); refine Hid.reg ?_; (conv => whnf)
    rotate_right
    · have he : x.id = id := by simpa using hc
      rw [decide_eq_true he] at hd
      refine SLoad.on 0 rfl ?_; (conv => whnf); refine SCall.p (by exact copied_any w0 x hxa hxq) ?_; (conv => whnf); refine SStore.on 1 rfl ?_; (conv => whnf); refine Hid.ret ?_; (conv => whnf); refine SLoad.on 1 rfl ?_; (conv => whnf); exact .p (le_setBox (le_new2 hle hb7) hb4) (by rw [← hd]; rfl)
    · have he : ¬ x.id = id := by simpa using hc
      rw [decide_eq_false he] at hd
      refine ⟨_, IntWalk.i64_in _ (by omega), ?_⟩; (conv => whnf)
      exact ⟨i + 1, by omega, by repeat (first | exact trivial | refine ⟨by first | trivial | exact Weak.refl _ | exact Weak.tok _ _ _ | exact Weak.of_eq (congrArg (AV.int _) (by omega)) | exact Weak.of_eq (congrArg AV.bool (by fail)) | exact Weak.nils _ _ (.inr rfl), ?_⟩), .drop (.refl _), hlt, hd, le_new2 hle hb7⟩
  · have hge : i = l.length := by simp at hc; omega
    subst hge
    rw [List.drop_length] at hd
    refine SStore.on 0 rfl ?_; (conv => whnf); refine Hid.ret ?_; (conv => whnf); refine SLoad.on 0 rfl ?_; (conv => whnf)
    exact .v (le_setBox hle hb4) (by rw [← hd]; exact .tup (.cons weak_sub0 (.cons (.refl _) .nil)))
theorem wo_take {l : List Sub} {i : Nat} {x : Sub} (id : Int) (h : l[i]? = some x) : wo (l.take (i + 1)) id = if x.id = id then wo (l.take i) id else wo (l.take i) id ++ [x] := by
  obtain ⟨hi, e⟩ := List.getElem?_eq_some_iff.1 h
  rw [List.take_succ_eq_append_getElem hi, e, wo, List.filter_append]
  by_cases hx : x.id = id
  · rw [if_pos hx]; simp [wo, hx]
  · rw [if_neg hx]; simp [wo, hx]
theorem eSub_cells (x : Sub) : (eSub x).cells.length = 10 := rfl
def woV (s : Stt) (id : Int) (o : Option (Nat × Nat)) : AV := .agg [.int .i64 s.clock, .int .i64 s.next, .int .i64 s.last, ownV ((wo s.subs id).map eSub).length o]
theorem wo_len (l : List Sub) (id : Int) : (wo l id).length ≤ l.length := List.length_filter_le _ _
def wr (l : List Sub) (id : Int) (i : Nat) : List AV := (wo (l.take i) id).map eSub
theorem wr_all (l : List Sub) (id : Int) : (wo l id).map eSub = wr l id l.length := by rw [wr, List.take_length]
theorem ne_isSome {σ : St} {b c : Nat} (h : (σ.box c).isSome = true) (hb : σ.box b = none) : b ≠ c := by rintro rfl; rw [hb] at h; cases h
theorem without_own (w0 : Base) (s : Stt) (id : Int) (hf : Fine s.subs) (σ : St) : CallW Tryz.prog w0 17 [eStt s, .int .i64 id] σ (fun r τ => ∃ o, r = woV s id o ∧ Grw σ τ ((wo s.subs id).map eSub) 10 o) := by
  refine CallW.h (B := []) Ty.tok Ty.mixed Tryz.func17 rfl Tryz.ntmps17 rfl (by simp) (by decide +kernel) (.nil σ) ?_
  obtain ⟨clock, next, last, l⟩ := s
  unfold woV
  dsimp only at hf ⊢
  (conv => whnf); refine Hid.seq ?_; refine Hid.reg ?_; (conv => whnf); refine SBox.b rfl ?_; (conv => whnf); intro b2 hb2; (conv => whnf); intro b4 hb4; (conv => whnf); refine Hid.seq ?_; refine Hid.reg ?_; (conv => whnf); refine Hid.seq ?_; refine Hid.seq ?_; refine Hid.reg ?_; (conv => whnf); refine SLoad.on 1 rfl ?_; (conv => whnf); refine Hid.block ?_; refine Hid.loop ?_
  have h4 := le_none (le_new (.refl _) hb2) hb4
  have n24 : b4 ≠ b2 := by rintro rfl; rw [setBox_same] at hb4; cases hb4
  refine SLoop.by2 Ty.mixed (fun ((i, o) : Nat × Option (Nat × Nat)) => l.length - i) (fun (i, o) => [(1, .int .i64 id), (2, .ptr b2 0), (4, .ptr b4 0), (5, ownV (wr l id i).length o), (9, eSubs l), (10, .int .i64 l.length), (11, .int .i64 i)]) (fun _ => [(b4, [.int .i64 0, .int .i64 0, .int .i64 0, .nils]), (b2, [.int .i64 clock, .int .i64 next, .int .i64 last, eSubs l])])
    (fun (i, o) τ => i ≤ l.length ∧ (∀ b cap, o = some (b, cap) → b ≠ b2 ∧ b ≠ b4) ∧ Grw σ τ (wr l id i) 10 o) (0, none) ⟨?_, .refl _, Nat.zero_le _, by simp, .nil (le_new (le_new (.refl _) hb2) hb4)⟩ ?_
  · show xWeak [(1, .int .i64 id), (2, .ptr b2 0), (4, .ptr b4 0), (5, .nils), (9, eSubs l), (10, .int .i64 l.length), (11, .int .i64 (0 : Nat))] _
    rw [show l.length = (l.map eSub).length by simp]
    repeat (first | exact trivial | refine ⟨by first | trivial | exact Weak.refl _ | exact Weak.tok _ _ _ | exact Weak.of_eq (congrArg (AV.int _) (by omega)) | exact Weak.of_eq (congrArg AV.bool (by fail)) | exact Weak.nils _ _ (.inr rfl), ?_⟩)
  rintro ⟨i, o⟩ τ ⟨hi, hob, hg⟩ hK
  have hB4 : τ.box b4 = some _ := hK.has _ (List.mem_cons_self ..)
  have hB2 : τ.box b2 = some _ := hK.has _ (List.mem_cons_of_mem _ (List.mem_cons_self ..))
  refine ⟨_, hK, ?_⟩
  have hn := hf.n
  by_cases hlt : i < l.length
  · have ga : (l.map eSub)[i]? = some (eSub l[i]) := by simp [hlt]
    have hxa := hf.a _ (List.getElem_mem hlt)
    have hxq := hf.q _ (List.getElem_mem hlt)
    have hwo := wo_take id (List.getElem?_eq_getElem hlt)
    have hml : (wr l id i).length ≤ 977343669120 := by
      have h1 := wo_len (l.take i) id
      have h2 := List.length_take_le i l
      rw [wr, List.length_map]; omega
    have hsz : ∀ y ∈ wr l id i, y.cells.length = 10 := fun y hy => (eSub_sz _ y hy).1
    generalize l[i] = x at *
    have e1 : ¬ x.id = id → wr l id (i + 1) = wr l id i ++ [eSub x] := fun h => by rw [wr, hwo, if_neg h, List.map_append]; rfl
    have e2 : x.id = id → wr l id (i + 1) = wr l id i := fun h => by rw [wr, hwo, if_pos h]; rfl
    cases o with
    | none =>
      refine Xc_h ?_; (conv => whnf); refine Hid.seq ?_; refine Hid.reg ?_; (conv => whnf); refine Hid.seq ?_; refine Hid.cond rfl ?_
      skip
      refine SIf.y Ty.mixed (decide_eq_true (by omega)) ?_; refine Xc_h ?_; (conv => whnf); refine Hid.skip ?_; (conv => whnf); refine Hid.seq ?_; refine Hid.seq ?_; refine Hid.reg ?_; (conv => whnf)
      refine ⟨_, ⟨by first | omega | (simp only [List.length_map]; omega), by exact ga⟩, ?_⟩
      (conv => whnf); intro b7 hb7; (conv => whnf); refine SStore.on 0 rfl ?_; (conv => whnf); refine Hid.seq ?_; refine Hid.reg ?_; (conv => whnf); refine SLoad.on 0 rfl ?_; (conv => whnf); refine Hid.cond rfl ?_
      by_cases he : x.id = id
      · refine SIf.n Ty.mixed (by simp [he]) ?_
        refine Xc_h ?_; (conv => whnf); refine Hid.skip ?_; (conv => whnf); refine Hid.reg ?_; (conv => whnf); refine ⟨_, IntWalk.i64_in _ (by omega), ?_⟩; (conv => whnf)
        exact ⟨(i + 1, none), by show l.length - (i + 1) < l.length - i; omega, by show xWeak [(1, .int .i64 id), (2, .ptr b2 0), (4, .ptr b4 0), (5, ownV (wr l id (i + 1)).length (none)), (9, eSubs l), (10, .int .i64 l.length), (11, .int .i64 (i + 1 : Nat))] _; rw [e2 he]; repeat (first | exact trivial | refine ⟨by first | trivial | exact Weak.refl _ | exact Weak.tok _ _ _ | exact Weak.of_eq (congrArg (AV.int _) (by omega)) | exact Weak.of_eq (congrArg AV.bool (by fail)) | exact Weak.nils _ _ (.inr rfl), ?_⟩), .drop (.refl _), hlt, hob, by show Grw σ _ (wr l id (i + 1)) 10 (none); rw [e2 he]; exact hg.other2 hb7⟩
      · refine SIf.y Ty.mixed (by simp [he]) ?_
        have hg2 := hg.other2 (cs := [AV.int .i64 0, .str [], .str [], .str [], .int .i64 0, .int .i64 0, .int .i64 0, .nils, .nils, .str []]) (ds := (eSub x).cells) hb7
        refine Xc_h ?_; (conv => whnf); refine Hid.reg ?_; (conv => whnf); refine SLoad.on 0 rfl ?_; (conv => whnf); refine SCall.p (by exact copied_any w0 x hxa hxq) ?_; (conv => whnf)
        refine SApp.row rfl hg2.rowN rfl hsz rfl (by omega) (by simp) fun b' cap' σ' q1 q2 q3 q4 => ?_
        (conv => whnf); refine Hid.reg ?_; (conv => whnf); refine ⟨_, IntWalk.i64_in _ (by omega), ?_⟩; (conv => whnf)
        have hg3 := hg2.step q1 q2 q3 q4
        have k2 : b' ≠ b2 ∧ b' ≠ b4 := by
          rcases q2 with q2 | q2
          · cases q2
          · rw [setBox_setBox] at q2
            exact ⟨ne_isSome (by rw [setBox_ne (by rintro rfl; rw [hb7] at hB2; cases hB2), hB2]; rfl) q2, ne_isSome (by rw [setBox_ne (by rintro rfl; rw [hb7] at hB4; cases hB4), hB4]; rfl) q2⟩
        exact ⟨(i + 1, some (b', cap')), by show l.length - (i + 1) < l.length - i; omega, by show xWeak [(1, .int .i64 id), (2, .ptr b2 0), (4, .ptr b4 0), (5, .msl b' 0 (wr l id (i + 1)).length cap'), (9, eSubs l), (10, .int .i64 l.length), (11, .int .i64 (i + 1 : Nat))] _; rw [e1 he, List.length_append]; repeat (first | exact trivial | refine ⟨by first | trivial | exact Weak.refl _ | exact Weak.tok _ _ _ | exact Weak.of_eq (congrArg (AV.int _) (by omega)) | exact Weak.of_eq (congrArg AV.bool (by fail)) | exact Weak.nils _ _ (.inr rfl), ?_⟩), .drop (.refl _), hlt, fun b cap e => by cases e; exact k2, by show Grw σ _ (wr l id (i + 1)) 10 (some (b', cap')); rw [e1 he]; exact hg3⟩
    | some p =>
      obtain ⟨b0, c0⟩ := p
      obtain ⟨k0, k1⟩ := hob b0 c0 rfl
      refine Xc_h ?_; (conv => whnf); refine Hid.seq ?_; refine Hid.reg ?_; (conv => whnf); refine Hid.seq ?_; refine Hid.cond rfl ?_
      skip
      refine SIf.y Ty.mixed (decide_eq_true (by omega)) ?_; refine Xc_h ?_; (conv => whnf); refine Hid.skip ?_; (conv => whnf); refine Hid.seq ?_; refine Hid.seq ?_; refine Hid.reg ?_; (conv => whnf)
      refine ⟨_, ⟨by first | omega | (simp only [List.length_map]; omega), by exact ga⟩, ?_⟩
      (conv => whnf); intro b7 hb7; (conv => whnf); refine SStore.on 0 rfl ?_; (conv => whnf); refine Hid.seq ?_; refine Hid.reg ?_; (conv => whnf); refine SLoad.on 0 rfl ?_; (conv => whnf); refine Hid.cond rfl ?_
      by_cases he : x.id = id
      · refine SIf.n Ty.mixed (by simp [he]) ?_
        refine Xc_h ?_; (conv => whnf); refine Hid.skip ?_; (conv => whnf); refine Hid.reg ?_; (conv => whnf); refine ⟨_, IntWalk.i64_in _ (by omega), ?_⟩; (conv => whnf)
        exact ⟨(i + 1, some (b0, c0)), by show l.length - (i + 1) < l.length - i; omega, by show xWeak [(1, .int .i64 id), (2, .ptr b2 0), (4, .ptr b4 0), (5, ownV (wr l id (i + 1)).length (some (b0, c0))), (9, eSubs l), (10, .int .i64 l.length), (11, .int .i64 (i + 1 : Nat))] _; rw [e2 he]; repeat (first | exact trivial | refine ⟨by first | trivial | exact Weak.refl _ | exact Weak.tok _ _ _ | exact Weak.of_eq (congrArg (AV.int _) (by omega)) | exact Weak.of_eq (congrArg AV.bool (by fail)) | exact Weak.nils _ _ (.inr rfl), ?_⟩), .drop (.refl _), hlt, hob, by show Grw σ _ (wr l id (i + 1)) 10 (some (b0, c0)); rw [e2 he]; exact hg.other2 hb7⟩
      · refine SIf.y Ty.mixed (by simp [he]) ?_
        have hg2 := hg.other2 (cs := [AV.int .i64 0, .str [], .str [], .str [], .int .i64 0, .int .i64 0, .int .i64 0, .nils, .nils, .str []]) (ds := (eSub x).cells) hb7
        refine Xc_h ?_; (conv => whnf); refine Hid.reg ?_; (conv => whnf); refine SLoad.on 0 rfl ?_; (conv => whnf); refine SCall.p (by exact copied_any w0 x hxa hxq) ?_; (conv => whnf)
        refine SApp.row rfl hg2.rowS rfl hsz rfl (by omega) (by simp only [List.mem_cons, List.not_mem_nil, or_false, forall_eq_or_imp, forall_eq]; exact ⟨fun e => (Grw.ne_new hg hb7) (Option.some.inj e), fun e => k1 (Option.some.inj e), fun e => k0 (Option.some.inj e)⟩) fun b' cap' σ' q1 q2 q3 q4 => ?_
        (conv => whnf); refine Hid.reg ?_; (conv => whnf); refine ⟨_, IntWalk.i64_in _ (by omega), ?_⟩; (conv => whnf)
        have hg3 := hg2.step q1 q2 q3 q4
        have k2 : b' ≠ b2 ∧ b' ≠ b4 := by
          rcases q2 with q2 | q2
          · cases q2; exact ⟨k0, k1⟩
          · rw [setBox_setBox] at q2
            exact ⟨ne_isSome (by rw [setBox_ne (by rintro rfl; rw [hb7] at hB2; cases hB2), hB2]; rfl) q2, ne_isSome (by rw [setBox_ne (by rintro rfl; rw [hb7] at hB4; cases hB4), hB4]; rfl) q2⟩
        exact ⟨(i + 1, some (b', cap')), by show l.length - (i + 1) < l.length - i; omega, by show xWeak [(1, .int .i64 id), (2, .ptr b2 0), (4, .ptr b4 0), (5, .msl b' 0 (wr l id (i + 1)).length cap'), (9, eSubs l), (10, .int .i64 l.length), (11, .int .i64 (i + 1 : Nat))] _; rw [e1 he, List.length_append]; repeat (first | exact trivial | refine ⟨by first | trivial | exact Weak.refl _ | exact Weak.tok _ _ _ | exact Weak.of_eq (congrArg (AV.int _) (by omega)) | exact Weak.of_eq (congrArg AV.bool (by fail)) | exact Weak.nils _ _ (.inr rfl), ?_⟩), .drop (.refl _), hlt, fun b cap e => by cases e; exact k2, by show Grw σ _ (wr l id (i + 1)) 10 (some (b', cap')); rw [e1 he]; exact hg3⟩
  · have hge : i = l.length := by omega
    subst hge
    cases o with
    | none =>
      refine Xc_h ?_; (conv => whnf); refine Hid.seq ?_; refine Hid.reg ?_; (conv => whnf); refine Hid.seq ?_; refine Hid.cond rfl ?_
      skip
      refine SIf.n Ty.mixed (decide_eq_false (by omega)) ?_; refine Xc_h ?_; (conv => whnf); refine Hid.exit ?_; (conv => whnf); refine Hid.seq ?_; refine Hid.reg ?_; (conv => whnf); refine SStore.on 1 rfl ?_; (conv => whnf); refine Hid.seq ?_; refine Hid.reg ?_; (conv => whnf); refine SLoad.on 1 rfl ?_; (conv => whnf); refine SStore.on 0 rfl ?_; (conv => whnf); refine Hid.ret ?_; (conv => whnf)
      refine SLoad.on 0 rfl ?_; (conv => whnf)
      exact .w ⟨none, by rw [wr_all]; rfl, by rw [wr_all]; exact (hg.keeps hb2 fun b cap e => (hob b cap e).1).keeps h4 fun b cap e => (hob b cap e).2⟩
    | some p =>
      obtain ⟨b0, c0⟩ := p
      refine Xc_h ?_; (conv => whnf); refine Hid.seq ?_; refine Hid.reg ?_; (conv => whnf); refine Hid.seq ?_; refine Hid.cond rfl ?_
      skip
      refine SIf.n Ty.mixed (decide_eq_false (by omega)) ?_; refine Xc_h ?_; (conv => whnf); refine Hid.exit ?_; (conv => whnf); refine Hid.seq ?_; refine Hid.reg ?_; (conv => whnf); refine SStore.on 1 rfl ?_; (conv => whnf); refine Hid.seq ?_; refine Hid.reg ?_; (conv => whnf); refine SLoad.on 1 rfl ?_; (conv => whnf); refine SStore.on 0 rfl ?_; (conv => whnf); refine Hid.ret ?_; (conv => whnf)
      refine SLoad.on 0 rfl ?_; (conv => whnf)
      exact .w ⟨some (b0, c0), by rw [wr_all]; rfl, by rw [wr_all]; exact (hg.keeps hb2 fun b cap e => (hob b cap e).1).keeps h4 fun b cap e => (hob b cap e).2⟩
end Go.Proofs.YtgliemhhnkhboaaGreatDoor
end
section
set_option linter.unusedVariables false
set_option linter.unusedSimpArgs false
set_option maxRecDepth 100000
set_option maxHeartbeats 2000000
namespace Go.Proofs.YtgliemhhnkhboaaGreatDoor
open Go.Al Go.RowKit
theorem putFn_any (w0 : Base) (y x : Sub) : CallP Tryz.prog w0 30 [eSub y, .vp (eSub x)] (.bool (decide (x.id < y.id))) := by
  refine CallP.h Ty.tok Ty.mixed Tryz.func30 rfl Tryz.ntmps30 rfl (by simp) (by decide +kernel) fun σ => ?_
  (conv => whnf); refine Hid.seq ?_; refine Hid.reg ?_; (conv => whnf); refine SBox.f ?_; (conv => whnf); refine Hid.seq ?_; refine Hid.reg ?_; (conv => whnf); refine Hid.ret ?_; (conv => whnf); exact .p (.refl _) rfl
def idxS (id : Int) : List Sub → Nat → Int
  | [], _ => -1
  | y :: l, k => if id < y.id then k else idxS id l (k + 1)
theorem idxS_cases (id : Int) : ∀ (l : List Sub) (k : Nat), (idxS id l k = -1 ∧ upto l id = l ∧ beyond l id = []) ∨ ∃ i, i < l.length ∧ idxS id l k = ((k + i : Nat) : Int) ∧ upto l id = l.take i ∧ beyond l id = l.drop i
  | [], k => .inl ⟨rfl, rfl, rfl⟩
  | y :: l, k => by
    by_cases h : id < y.id
    · exact .inr ⟨0, by simp, by simp [idxS, h], by simp [upto, h], by simp [beyond, h]⟩
    · rcases idxS_cases id l (k + 1) with ⟨h1, h2, h3⟩ | ⟨i, h1, h2, h3, h4⟩
      · exact .inl ⟨by simp [idxS, h, h1], by simp only [upto] at h2; simp [upto, h, h2], by simp only [beyond] at h3; simp [beyond, h, h3]⟩
      · exact .inr ⟨i + 1, by simp; omega, by rw [idxS, if_neg h, h2]; congr 1; omega, by simp only [upto] at h3; simp [upto, h, h3], by simp only [beyond] at h4; simp [beyond, h, h4]⟩
def sc (l : List Sub) : List AV := (l.map eSub).flatMap AV.cells
theorem sc_len (l : List Sub) : (sc l).length = l.length * 10 := by
  rw [sc, flat_len fun x hx => (eSub_sz l x hx).1, List.length_map]
theorem sc_app (a b : List Sub) : sc (a ++ b) = sc a ++ sc b := by rw [sc, List.map_append, List.flatMap_append]; rfl
theorem sc_cons (x : Sub) (l : List Sub) : sc (x :: l) = (eSub x).cells ++ sc l := rfl
theorem sc_one (l : List Sub) : ∀ c ∈ sc l, c.one = true := fun c hc => by
  obtain ⟨x, hx, hc⟩ := List.mem_flatMap.1 hc
  exact (eSub_sz l x hx).2 c hc
theorem sc_split (l : List Sub) (i : Nat) : sc l = sc (l.take i) ++ sc (l.drop i) := by rw [← sc_app, List.take_append_drop]
theorem sc_get {l : List Sub} {junk : List AV} {i : Nat} (h : i < l.length) : ((sc l ++ junk).drop (0 + (i : Int).toNat * 10)).take 10 = (eSub l[i]).cells := by
  rw [sc_split l i, List.drop_eq_getElem_cons h, sc_cons]
  have : 0 + (i : Int).toNat * 10 = (sc (l.take i)).length := by rw [sc_len, List.length_take]; omega
  rw [this, List.append_assoc, List.drop_left, List.append_assoc, List.take_append_of_le_length (by rw [eSub_cells]; omega), List.take_of_length_le (by rw [eSub_cells]; omega)]
theorem indexSub_nil (w0 : Base) (x : Sub) : CallP Tryz.prog w0 29 [.nils, .fn (.func 30) [] [.vp (eSub x)]] (.int .i64 (-1)) := by
  refine CallP.h Ty.tok Ty.mixed Tryz.func29 rfl Tryz.ntmps29 rfl (by simp) (by decide +kernel) fun σ => ?_
  (conv => whnf); refine Hid.seq ?_; refine Hid.reg ?_; (conv => whnf); refine Hid.seq ?_; refine Hid.seq ?_; refine Hid.reg ?_; (conv => whnf); refine Hid.block ?_; refine Hid.loop ?_
  skip
  refine SLoop.by Ty.mixed (fun _ : Unit => 0) (fun _ => [(7, .int .i64 0), (8, .int .i64 0)]) (fun _ => []) (fun _ τ => τ = σ) () ⟨by repeat (first | exact trivial | refine ⟨by first | trivial | exact Weak.refl _ | exact Weak.tok _ _ _ | exact Weak.of_eq (congrArg (AV.int _) (by omega)) | exact Weak.of_eq (congrArg AV.bool (by fail)) | exact Weak.nils _ _ (.inr rfl), ?_⟩), .none _, rfl⟩ ?_
  rintro _ τ rfl; refine Xc_h ?_; (conv => whnf); refine Hid.seq ?_; refine Hid.reg ?_; (conv => whnf); refine Hid.seq ?_; refine Hid.cond rfl ?_; refine SIf.n Ty.mixed (by exact rfl) ?_; refine Xc_h ?_; (conv => whnf); refine Hid.exit ?_; (conv => whnf); refine Hid.seq ?_; refine Hid.reg ?_; (conv => whnf); refine Hid.ret ?_; (conv => whnf); exact .p (.refl _) rfl
theorem indexSub_any (w0 : Base) (l : List Sub) (junk : List AV) (x : Sub) (b cap : Nat) (hn : l.length ≤ 977343669120) (σ : St) (hb : σ.box b = some (sc l ++ junk)) :
    CallW Tryz.prog w0 29 [.msl b 0 l.length cap, .fn (.func 30) [] [.vp (eSub x)]] σ (fun r s => r = .int .i64 (idxS x.id l 0) ∧ s = σ) := by
  refine CallW.h (B := [(b, sc l ++ junk)]) Ty.tok Ty.mixed Tryz.func29 rfl Tryz.ntmps29 rfl (by simp) (by decide +kernel) ((Know.nil σ).add hb (by simp)) ?_; (conv => whnf); refine Hid.seq ?_; refine Hid.reg ?_; (conv => whnf); refine Hid.seq ?_; refine Hid.seq ?_; refine Hid.reg ?_
  (conv => whnf); refine Hid.block ?_; refine Hid.loop ?_
  skip
  refine SLoop.by Ty.mixed (fun i : Nat => l.length - i) (fun i => [(0, .msl b 0 l.length cap), (1, .fn (.func 30) [] [.vp (eSub x)]), (7, .int .i64 l.length), (8, .int .i64 i)]) (fun _ => [(b, sc l ++ junk)]) (fun i τ => i ≤ l.length ∧ idxS x.id (l.drop i) i = idxS x.id l 0 ∧ τ = σ) 0 ⟨by repeat (first | exact trivial | refine ⟨by first | trivial | exact Weak.refl _ | exact Weak.tok _ _ _ | exact Weak.of_eq (congrArg (AV.int _) (by omega)) | exact Weak.of_eq (congrArg AV.bool (by fail)) | exact Weak.nils _ _ (.inr rfl), ?_⟩), .refl _, Nat.zero_le _, rfl, rfl⟩ ?_
  rintro i τ ⟨hi, hd, rfl⟩; refine Xc_h ?_; (conv => whnf); refine Hid.seq ?_; refine Hid.reg ?_; (conv => whnf); refine Hid.seq ?_; refine Hid.cond rfl ?_
  skip
  refine SIf.x Ty.mixed (fun hc => ?_) (fun hc => ?_); refine Xc_h ?_; (conv => whnf); refine Hid.skip ?_; (conv => whnf); refine Hid.seq ?_; refine Hid.seq ?_; refine Hid.reg ?_; (conv => whnf); refine Hid.seq ?_; refine Hid.reg ?_; (conv => whnf); rotate_left; refine Xc_h ?_; (conv => whnf); refine Hid.exit ?_; (conv => whnf); refine Hid.seq ?_; refine Hid.reg ?_; (conv => whnf)
  refine Hid.ret ?_; (conv => whnf)
  rotate_right
  · have hlt : i < l.length := by simp at hc; omega
    have ga := sc_get (junk := junk) hlt
    rw [List.drop_eq_getElem_cons hlt, idxS] at hd
    generalize l[i] = y at *
    refine And.intro (by omega) ?_; (conv => whnf); refine SLoad.as 0 _ rfl (aLoadA ga rfl rfl) ?_; (conv => whnf); refine SCall.p (by exact putFn_any w0 y x) ?_; (conv => whnf); refine Hid.cond rfl ?_; refine SIf.x Ty.mixed (fun hc => ?_) (fun hc => ?_); refine Xc_h ?_; (conv => whnf); refine Hid.seq ?_; refine Hid.reg ?_; (conv => whnf); refine Hid.ret ?_; (conv => whnf); rotate_left
    refine Xc_h ?_; (conv => whnf); refine Hid.skip ?_; (conv => whnf); refine Hid.reg ?_; (conv => whnf)
    rotate_right
    · have he : x.id < y.id := by simpa using hc
      rw [if_pos he] at hd
      skip
      exact .p (.refl _) (by rw [hd])
    · have he : ¬ x.id < y.id := by simpa using hc
      rw [if_neg he] at hd
      refine ⟨_, IntWalk.i64_in _ (by omega), ?_⟩; (conv => whnf)
      exact ⟨i + 1, by omega, by repeat (first | exact trivial | refine ⟨by first | trivial | exact Weak.refl _ | exact Weak.tok _ _ _ | exact Weak.of_eq (congrArg (AV.int _) (by omega)) | exact Weak.of_eq (congrArg AV.bool (by fail)) | exact Weak.nils _ _ (.inr rfl), ?_⟩), .refl _, hlt, hd, rfl⟩
  · have hge : i = l.length := by simp at hc; omega
    subst hge
    rw [List.drop_length, idxS] at hd
    skip
    exact .p (.refl _) (by rw [← hd])
end Go.Proofs.YtgliemhhnkhboaaGreatDoor
end
section
set_option linter.unusedVariables false
set_option linter.unusedSimpArgs false
set_option maxRecDepth 100000
set_option maxHeartbeats 2000000
namespace Go.Proofs.YtgliemhhnkhboaaGreatDoor
open Go.Al Go.RowKit
theorem over_ext (w0 : Base) (x : Sub) (t : Tok) (b off m cap : Nat) (σ : St) {cs : List AV} (hb : σ.box b = some cs) (hcs : cs ≠ []) : ExtW Tryz.prog w0 49 [.slc 10 [eSub x] t, .msl b off m cap] σ (.bool false) :=
  overlaps_ext (tR := 4) Tryz.func49 (by kernel_rfl) (by kernel_rfl) (by kernel_rfl) (by kernel_rfl) Tryz.underlying22 Ty.size35 (by decide) (by simp) hb hcs
def insR (l : List Sub) (i : Nat) (x : Sub) : List AV := (l.take i ++ x :: l.drop i).map eSub
theorem insR_cells (l : List Sub) (i : Nat) (x : Sub) : (insR l i x).flatMap AV.cells = sc (l.take i) ++ (eSub x).cells ++ sc (l.drop i) := by
  show sc (l.take i ++ x :: l.drop i) = _
  rw [sc_app, sc_cons, List.append_assoc]
theorem insR_len {l : List Sub} {i : Nat} (h : i ≤ l.length) (x : Sub) : (insR l i x).length = l.length + 1 := by simp [insR]; omega
theorem Grw.fresh {σ0 σ : St} {ys : List AV} {sz b cap : Nat} (hle : St.Le σ0 σ) (hb : σ.box b = none) (hsz : ∀ y ∈ ys, y.cells.length = sz) (hc : ys.length ≤ cap) : Grw σ0 (σ.setBox b (ys.flatMap AV.cells ++ List.replicate ((cap - ys.length) * sz) .und)) ys sz (some (b, cap)) :=
  ⟨le_new hle hb, le_none hle hb, ⟨_, setBox_same, by
    rw [List.length_append, flat_len hsz, List.length_replicate, ← Nat.add_mul, Nat.add_sub_cancel' hc]; exact Nat.le_refl _⟩, hc⟩
theorem insert_end (w0 : Base) (l : List Sub) (x : Sub) (t : Tok) (o : Option (Nat × Nat)) (hn : l.length ≤ 977343669120) (σ0 σ : St) (hg : Grw σ0 σ (l.map eSub) 10 o) :
    CallW Tryz.prog w0 31 [ownV l.length o, .int .i64 l.length, .slc 10 [eSub x] t] σ (fun r s => ∃ b' cap', r = .msl b' 0 (l.length + 1) cap' ∧ Grw σ0 s (insR l l.length x) 10 (some (b', cap'))) := by
  have hsz : ∀ y ∈ l.map eSub, y.cells.length = 10 := fun y hy => (eSub_sz l y hy).1
  have hin : insR l l.length x = l.map eSub ++ [eSub x] := by simp [insR]
  cases o with
  | none =>
    have hl : l = [] := by have := hg.row; simpa [ownP] using this
    subst hl
    refine CallW.weaken (args' := [.slc 10 [] .full, .int .i64 0, .slc 10 [eSub x] t]) ?_ (.cons (.nils 10 .full (.inr rfl)) (WeakL.refl _)); refine CallW.h (B := []) Ty.tok Ty.mixed Tryz.func31 rfl Tryz.ntmps31 rfl (by simp) (by decide +kernel) (.nil σ) ?_; (conv => whnf); refine Hid.seq ?_
    refine Hid.reg ?_; (conv => whnf); refine Hid.seq ?_; refine Hid.reg ?_; (conv => whnf); refine And.intro (by omega) ?_; (conv => whnf); refine ⟨_, rfl, ?_⟩; (conv => whnf); refine Hid.seq ?_; refine Hid.reg ?_; (conv => whnf); refine Hid.seq ?_; refine Hid.seq ?_; refine Hid.reg ?_; (conv => whnf); refine Hid.cond rfl ?_; refine SIf.n Ty.mixed (by exact rfl) ?_; refine Xc_h ?_; (conv => whnf)
    refine Hid.skip ?_; (conv => whnf); refine Hid.seq ?_; refine Hid.reg ?_; (conv => whnf); refine Hid.seq ?_; refine Hid.seq ?_; refine Hid.reg ?_; (conv => whnf); refine Hid.cond rfl ?_; refine SIf.y Ty.mixed (by exact rfl) ?_; refine Xc_h ?_; (conv => whnf); refine Hid.seq ?_; refine Hid.reg ?_; (conv => whnf)
    refine SApp.e rfl rfl (by simp) (by simp) fun b cap hb hcap => ?_
    (conv => whnf); refine Hid.ret ?_; (conv => whnf); exact .w ⟨b, cap, rfl, Grw.fresh (ys := [eSub x]) hg.le hb (by simp [eSub_cells]) hcap⟩
  | some p =>
    obtain ⟨b, cap⟩ := p
    refine CallW.h (B := []) Ty.tok Ty.mixed Tryz.func31 rfl Tryz.ntmps31 rfl (by simp) (by decide +kernel) (.nil σ) ?_
    have hcap := hg.row.cap
    rw [List.length_map] at hcap
    have hrow := hg.rowS
    rw [List.length_map] at hrow
    (conv => whnf); refine Hid.seq ?_; refine Hid.reg ?_; (conv => whnf); refine Hid.seq ?_; refine Hid.reg ?_; (conv => whnf); refine And.intro (by omega) ?_; (conv => whnf); refine ⟨_, rfl, ?_⟩; (conv => whnf); refine ⟨_, rfl, ?_⟩; (conv => whnf); refine ⟨_, rfl, ?_⟩; (conv => whnf); refine Hid.seq ?_; refine Hid.reg ?_; (conv => whnf); refine Hid.seq ?_; refine Hid.seq ?_; refine Hid.reg ?_
    (conv => whnf); refine Hid.cond rfl ?_; refine SIf.n Ty.mixed (by exact rfl) ?_; refine Xc_h ?_; (conv => whnf); refine Hid.skip ?_; (conv => whnf); refine Hid.seq ?_; refine Hid.reg ?_; (conv => whnf); refine Hid.seq ?_; refine Hid.seq ?_; refine Hid.reg ?_; (conv => whnf); refine Hid.cond rfl ?_; refine SIf.y Ty.mixed (decide_eq_true rfl) ?_; refine Xc_h ?_; (conv => whnf); refine Hid.seq ?_
    refine Hid.reg ?_; (conv => whnf)
    refine SApp.row (n' := l.length + 1) (by simp) hrow rfl hsz rfl (by simp; omega) (by simp) fun b' cap' σ' q1 q2 q3 q4 => ?_
    (conv => whnf); refine Hid.ret ?_; (conv => whnf)
    exact .w ⟨b', cap', rfl, by rw [hin]; exact hg.step q1 q2 q3 q4⟩
theorem insert_mid (w0 : Base) (l : List Sub) (x : Sub) (t : Tok) (i : Nat) (b cap : Nat) (hi : i < l.length) (hn : l.length ≤ 977343669120) (σ0 σ : St) (hg : Grw σ0 σ (l.map eSub) 10 (some (b, cap))) :
    CallW Tryz.prog w0 31 [.msl b 0 l.length cap, .int .i64 i, .slc 10 [eSub x] t] σ (fun r s => ∃ b' cap', r = .msl b' 0 (l.length + 1) cap' ∧ Grw σ0 s (insR l i x) 10 (some (b', cap'))) := by
  obtain ⟨hb0, ⟨junk, hb, hjl⟩, hcap⟩ := hg.row
  rw [List.length_map] at hcap
  change σ.box b = some (sc l ++ junk) at hb
  change cap * 10 ≤ (sc l ++ junk).length at hjl
  have hjl2 := hjl
  rw [List.length_append, sc_len] at hjl2
  refine CallW.h (B := [(b, sc l ++ junk)]) Ty.tok Ty.mixed Tryz.func31 rfl Tryz.ntmps31 rfl (by simp) (by decide +kernel) ((Know.nil σ).add hb (by simp)) ?_; (conv => whnf); refine Hid.seq ?_; refine Hid.reg ?_; (conv => whnf); refine Hid.seq ?_; refine Hid.reg ?_; (conv => whnf)
  refine And.intro (by omega) ?_; (conv => whnf); refine ⟨_, rfl, ?_⟩; (conv => whnf); refine ⟨_, rfl, ?_⟩; (conv => whnf); refine ⟨_, rfl, ?_⟩; (conv => whnf); refine Hid.seq ?_; refine Hid.reg ?_; (conv => whnf); refine Hid.seq ?_; refine Hid.seq ?_; refine Hid.reg ?_; (conv => whnf); refine Hid.cond rfl ?_; refine SIf.n Ty.mixed (by exact rfl) ?_; refine Xc_h ?_; (conv => whnf)
  refine Hid.skip ?_; (conv => whnf); refine Hid.seq ?_; refine Hid.reg ?_; (conv => whnf); refine Hid.seq ?_; refine Hid.seq ?_; refine Hid.reg ?_; (conv => whnf); refine Hid.cond rfl ?_
  rw [show (([eSub x] : List AV).length : Int) = 1 from rfl]
  refine SIf.n Ty.mixed (decide_eq_false (by omega)) ?_; refine Xc_h ?_; (conv => whnf); refine Hid.skip ?_; (conv => whnf); refine Hid.seq ?_; refine Hid.seq ?_; refine Hid.reg ?_; (conv => whnf); refine ⟨_, IntWalk.i64_in _ (by omega), ?_⟩; (conv => whnf); refine Hid.cond rfl ?_
  have hA : (sc (l.take i)).length = i * 10 := by rw [sc_len, List.length_take]; omega
  have hR : (sc (l.drop i)).length = (l.length - i) * 10 := by rw [sc_len, List.length_drop]
  by_cases hroom : l.length + 1 ≤ cap
  · refine SIf.n Ty.mixed (decide_eq_false (by omega)) ?_
    have hne : sc l ++ junk ≠ [] := by
      intro e
      have := congrArg List.length e
      rw [List.length_append, sc_len] at this
      simp at this; omega
    refine Xc_h ?_; (conv => whnf); refine Hid.skip ?_; (conv => whnf); refine Hid.seq ?_; refine Hid.reg ?_; (conv => whnf); refine ⟨_, IntWalk.i64_in _ (by omega), ?_⟩; (conv => whnf); refine And.intro (by omega) ?_; (conv => whnf)
    refine ⟨0, by first | (split <;> omega) | fail, ?_⟩
    (conv => whnf)
    refine ⟨l.length + 1, by first | omega | fail, ?_⟩
    (conv => whnf)
    refine ⟨cap, by first | omega | fail, ?_⟩
    (conv => whnf); refine Hid.seq ?_; refine Hid.seq ?_; refine Hid.reg ?_; (conv => whnf); refine ⟨_, IntWalk.i64_in _ (by omega), ?_⟩; (conv => whnf); refine And.intro (by omega) ?_; (conv => whnf)
    refine ⟨(i + 1) * 10, by first | (split <;> omega) | fail, ?_⟩
    (conv => whnf)
    refine ⟨l.length - i, by first | omega | fail, ?_⟩
    (conv => whnf)
    refine ⟨cap - (i + 1), by first | omega | fail, ?_⟩
    (conv => whnf); refine SCall.e (over_ext w0 x t b _ _ _ σ hb hne) rfl ?_; (conv => whnf); refine Hid.cond rfl ?_; refine SIf.y Ty.mixed (by exact rfl) ?_; refine Xc_h ?_; (conv => whnf); refine Hid.seq ?_; refine Hid.regD ?_; refine SReg.d [0, 1, 2, 3, 4, 5, 6, 7, 8] [0, 0, 0, 0, 0, 0, 0, 0, 2] (by decide +kernel) ?_; (conv => whnf); (conv => whnf); refine ⟨_, IntWalk.i64_in _ (by omega), ?_⟩
    (conv => whnf); refine And.intro (by omega) ?_; (conv => whnf)
    refine ⟨(i + 1) * 10, by first | (split <;> omega) | fail, ?_⟩
    (conv => whnf)
    refine ⟨l.length - i, by first | omega | fail, ?_⟩
    (conv => whnf)
    refine ⟨cap - (i + 1), by first | omega | fail, ?_⟩
    (conv => whnf); refine And.intro (by omega) ?_; (conv => whnf)
    refine ⟨i * 10, by first | (split <;> omega) | fail, ?_⟩
    (conv => whnf)
    refine ⟨l.length + 1 - i, by first | omega | fail, ?_⟩
    (conv => whnf)
    refine ⟨cap - i, by first | omega | fail, ?_⟩
    (conv => whnf)
    have hjj : 10 ≤ junk.length := by omega
    have e1 : setL (sc l ++ junk) ((i + 1) * 10) (sc (l.drop i)) = sc (l.take i) ++ ((sc (l.drop i) ++ junk).take 10 ++ sc (l.drop i) ++ ((sc (l.drop i) ++ junk).drop 10).drop (sc (l.drop i)).length) := by
      have h := setL_app (sc (l.drop i)) (sc (l.take i) ++ (sc (l.drop i) ++ junk).take 10) ((sc (l.drop i) ++ junk).drop 10) (by rw [List.length_drop, List.length_append]; omega)
      have hl10 : ((sc (l.drop i) ++ junk).take 10).length = 10 := by rw [List.length_take, List.length_append]; omega
      rw [List.append_assoc (sc (l.take i)), List.take_append_drop, List.length_append, hA, hl10] at h
      rw [sc_split l i, List.append_assoc, show (i + 1) * 10 = i * 10 + 10 by omega, h]
      simp only [List.append_assoc]
    refine SCopy.o (sz := 10) 0 0 rfl rfl rfl rfl (by rw [List.length_append, sc_len]; omega) rfl rfl (k := l.length - i) (by omega) (us := sc (l.drop i)) ?_ hR (List.all_eq_true.2 fun c hc => sc_one _ c hc) ?_
    · rw [sc_split l i, List.append_assoc, ← hA, List.drop_left, ← hR, List.take_left]
    intro vs hvs
    rw [e1] at hvs
    subst hvs
    (conv => whnf); refine Hid.seq ?_; refine Hid.reg ?_; (conv => whnf); refine And.intro (by omega) ?_; (conv => whnf)
    refine ⟨i * 10, by first | (split <;> omega) | fail, ?_⟩
    (conv => whnf)
    refine ⟨l.length + 1 - i, by first | omega | fail, ?_⟩
    (conv => whnf)
    refine ⟨cap - i, by first | omega | fail, ?_⟩
    (conv => whnf)
    have hl10 : ((sc (l.drop i) ++ junk).take 10).length = 10 := by rw [List.length_take, List.length_append]; omega
    generalize hZ : ((sc (l.drop i) ++ junk).drop 10).drop (sc (l.drop i)).length = Z
    have hZl : cap * 10 ≤ i * 10 + 10 + (l.length - i) * 10 + Z.length := by
      rw [← hZ, List.length_drop, List.length_drop, List.length_append, hR]; omega
    generalize (sc (l.drop i) ++ junk).take 10 = R10 at hl10 ⊢
    have hd10 : (R10 ++ sc (l.drop i) ++ Z).drop 10 = sc (l.drop i) ++ Z := by rw [List.append_assoc, ← hl10, List.drop_left]
    have e2 : setL (sc (l.take i) ++ (R10 ++ sc (l.drop i) ++ Z)) (i * 10) ([eSub x].flatMap AV.cells) = (insR l i x).flatMap AV.cells ++ Z := by
      have h := setL_app (eSub x).cells (sc (l.take i)) (R10 ++ sc (l.drop i) ++ Z) (by rw [List.length_append, List.length_append, hl10, eSub_cells]; omega)
      rw [hA] at h
      rw [show ([eSub x] : List AV).flatMap AV.cells = (eSub x).cells from by simp, h, insR_cells, eSub_cells, hd10]
      simp only [List.append_assoc]
    refine SCopy.m (sz := 10) 0 rfl rfl rfl rfl (by simp only [List.length_append, hA, hl10, hR]; omega) rfl (by simp; omega) ?_; intro vs hvs
    rw [e2] at hvs
    subst hvs
    (conv => whnf); refine Hid.seq ?_; refine Hid.reg ?_; (conv => whnf); refine Hid.ret ?_; (conv => whnf)
    skip
    refine .w ⟨b, cap, rfl, le_setBox (le_setBox hg.le hb0) hb0, hb0, ⟨Z, setBox_same, ?_⟩, by rw [insR_len (Nat.le_of_lt hi)]; exact hroom⟩
    rw [List.length_append, insR_cells, List.length_append, List.length_append, hA, hR, eSub_cells]
    exact hZl
  · refine SIf.y Ty.mixed (decide_eq_true (by omega)) ?_
    refine Xc_h ?_; (conv => whnf); refine Hid.seq ?_; refine Hid.reg ?_; (conv => whnf); refine And.intro (by omega) ?_; (conv => whnf)
    refine ⟨0, by first | (split <;> omega) | fail, ?_⟩
    (conv => whnf)
    refine ⟨i, by first | omega | fail, ?_⟩
    (conv => whnf)
    refine ⟨cap, by first | omega | fail, ?_⟩
    (conv => whnf); refine ⟨_, IntWalk.i64_in _ (by omega), ?_⟩; (conv => whnf); refine ⟨_, IntWalk.i64_in _ (by omega), ?_⟩; (conv => whnf); refine SApp.z (n := i) (kn := l.length + 1 - i) 0 rfl rfl hjl (by omega) (congrArg (AV.int .i64) (by omega)) (by omega) (by decide) (by omega) ?_; intro b' cap' hb' hcap'
    have hne : b' ≠ b := by rintro rfl; rw [hb'] at hb; cases hb
    rw [show i + (l.length + 1 - i) = l.length + 1 by omega] at hcap' ⊢
    rw [show (sc l ++ junk).take (i * 10) = sc (l.take i) by rw [sc_split l i, List.append_assoc, ← hA, List.take_left]]
    (conv => whnf); refine Hid.seq ?_; refine Hid.reg ?_; (conv => whnf); refine And.intro (by omega) ?_; (conv => whnf)
    refine ⟨i * 10, by first | (split <;> omega) | fail, ?_⟩
    (conv => whnf)
    refine ⟨l.length + 1 - i, by first | omega | fail, ?_⟩
    (conv => whnf)
    refine ⟨cap' - i, by first | omega | fail, ?_⟩
    (conv => whnf)
    have hul : (List.replicate ((cap' - i) * 10) AV.und).length = (cap' - i) * 10 := List.length_replicate
    generalize List.replicate ((cap' - i) * 10) AV.und = U at hul ⊢
    have f1 : setL (sc (l.take i) ++ U) (i * 10) ([eSub x].flatMap AV.cells) = sc (l.take i) ++ (eSub x).cells ++ U.drop 10 := by
      have h := setL_app (eSub x).cells (sc (l.take i)) U (by rw [eSub_cells]; omega)
      rw [hA, eSub_cells] at h
      rw [show ([eSub x] : List AV).flatMap AV.cells = (eSub x).cells from by simp, h]
    refine SCopy.m (sz := 10) 0 rfl rfl rfl rfl (by rw [List.length_append, hA, hul]; omega) rfl (by simp; omega) ?_; intro vs hvs
    rw [f1] at hvs
    subst hvs
    have f2 : setL (sc (l.take i) ++ (eSub x).cells ++ U.drop 10) ((i + 1) * 10) (sc (l.drop i)) = (insR l i x).flatMap AV.cells ++ (U.drop 10).drop (sc (l.drop i)).length := by
      have h := setL_app (sc (l.drop i)) (sc (l.take i) ++ (eSub x).cells) (U.drop 10) (by rw [List.length_drop, hul, hR]; omega)
      rw [List.length_append, hA, eSub_cells] at h
      rw [show (i + 1) * 10 = i * 10 + 10 by omega, h, insR_cells]
    (conv => whnf); refine Hid.seq ?_; refine Hid.regD ?_; refine SReg.d [0, 1, 2, 3, 4, 5, 6, 7, 8] [0, 0, 0, 0, 0, 0, 0, 0, 2] (by decide +kernel) ?_; (conv => whnf); (conv => whnf); refine ⟨_, IntWalk.i64_in _ (by omega), ?_⟩; (conv => whnf); refine And.intro (by omega) ?_; (conv => whnf)
    refine ⟨(i + 1) * 10, by first | (split <;> omega) | fail, ?_⟩
    (conv => whnf)
    refine ⟨l.length - i, by first | omega | fail, ?_⟩
    (conv => whnf)
    refine ⟨cap' - (i + 1), by first | omega | fail, ?_⟩
    (conv => whnf); refine And.intro (by omega) ?_; (conv => whnf)
    refine ⟨i * 10, by first | (split <;> omega) | fail, ?_⟩
    (conv => whnf)
    refine ⟨l.length - i, by first | omega | fail, ?_⟩
    (conv => whnf)
    refine ⟨l.length - i, by first | omega | fail, ?_⟩
    (conv => whnf); refine SCopy.o (sz := 10) 0 1 rfl rfl rfl rfl (by rw [List.length_append, List.length_append, hA, eSub_cells, List.length_drop, hul]; omega) rfl rfl (k := l.length - i) (by omega) (us := sc (l.drop i)) ?_ hR (List.all_eq_true.2 fun c hc => sc_one _ c hc) ?_
    · rw [sc_split l i, List.append_assoc, ← hA, List.drop_left, ← hR, List.take_left]
    intro vs hvs
    rw [f2] at hvs
    subst hvs
    have hle : St.Le σ0 σ := hg.le
    have hb0' := le_none hle hb'
    (conv => whnf); refine Hid.seq ?_; refine Hid.reg ?_; (conv => whnf); refine Hid.ret ?_; (conv => whnf)
    skip
    refine .w ⟨b', cap', rfl, le_setBox (le_setBox (le_setBox hle hb0') hb0') hb0', hb0', ⟨_, setBox_same, ?_⟩, by rw [insR_len (Nat.le_of_lt hi)]; exact hcap'⟩
    rw [List.length_append, insR_cells, List.length_append, List.length_append, List.length_drop, List.length_drop, hul, hA, hR, eSub_cells]
    omega
end Go.Proofs.YtgliemhhnkhboaaGreatDoor
end
section
set_option linter.unusedVariables false
set_option linter.unusedSimpArgs false
set_option maxRecDepth 100000
set_option maxHeartbeats 2000000
namespace Go.Proofs.YtgliemhhnkhboaaGreatDoor
open Go.Al Go.RowKit
theorem putS_ins (l : List Sub) (x : Sub) : (idxS x.id (wo l x.id) 0 = -1 ∧ (putS l x).map eSub = insR (wo l x.id) (wo l x.id).length x) ∨ ∃ i, i < (wo l x.id).length ∧ idxS x.id (wo l x.id) 0 = (i : Int) ∧ (putS l x).map eSub = insR (wo l x.id) i x := by
  rcases idxS_cases x.id (wo l x.id) 0 with ⟨h1, h2, h3⟩ | ⟨i, h1, h2, h3, h4⟩
  · exact .inl ⟨h1, by rw [putS, h2, h3, insR, List.take_length, List.drop_length]⟩
  · exact .inr ⟨i, h1, by rw [h2, Nat.zero_add], by rw [putS, h3, h4, insR]⟩
theorem Fine.wo {l : List Sub} (h : Fine l) (id : Int) : Fine (wo l id) := ⟨Nat.le_trans (wo_len l id) h.n, fun x hx => h.a x (mem_wo.1 hx).1, fun x hx => h.q x (mem_wo.1 hx).1⟩
theorem put_own (w0 : Base) (s : Stt) (x : Sub) (hf : Fine s.subs) (hxa : x.acks.length ≤ 17592186043904) (hxq : x.queue.length ≤ 1599289640354) (σ : St) : CallW Tryz.prog w0 13 [eStt s, eSub x] σ (fun r τ => ∃ o, r = .agg ([.int .i64 s.clock, .int .i64 s.next, .int .i64 s.last] ++ ownV ((putS s.subs x).map eSub).length o :: []) ∧ Grw σ τ ((putS s.subs x).map eSub) 10 o) := by
  refine CallW.h (B := []) Ty.tok Ty.mixed Tryz.func13 rfl Tryz.ntmps13 rfl (by simp) (by decide +kernel) (.nil σ) ?_
  have hwf := hf.wo x.id
  obtain ⟨clock, next, last, l⟩ := s
  dsimp only at hf hwf ⊢
  (conv => whnf); refine Hid.seq ?_; refine Hid.reg ?_; (conv => whnf); refine SBox.b rfl ?_; (conv => whnf); intro b2 hb2; (conv => whnf); refine SBox.f ?_; (conv => whnf); intro b4 hb4; (conv => whnf); refine Hid.seq ?_; refine Hid.reg ?_; (conv => whnf); refine SLoad.on 1 rfl ?_; (conv => whnf)
  have h4 := le_none (le_new (.refl _) hb2) hb4
  have n24 : b4 ≠ b2 := by rintro rfl; rw [setBox_same] at hb4; cases hb4
  refine SCall.w (without_own w0 ⟨clock, next, last, l⟩ x.id hf _) rfl ?_; rintro r τ ⟨o, rfl, hg⟩ hB; refine ⟨_, hB.le hg.le, ?_⟩
  have hpi := putS_ins l x
  have hwn := hwf.n
  have hml : ((Go.Proofs.YtgliemhhnkhboaaGreatDoor.wo l x.id).map eSub).length = (Go.Proofs.YtgliemhhnkhboaaGreatDoor.wo l x.id).length := by simp
  have k2 : (((σ.setBox b2 [.int .i64 clock, .int .i64 next, .int .i64 last, eSubs l]).setBox b4 [.int .i64 0, .int .i64 0, .int .i64 0, .nils]).box b2).isSome = true := by rw [setBox_ne (Ne.symm n24), setBox_same]; rfl
  have hle0 : St.Le σ ((σ.setBox b2 [.int .i64 clock, .int .i64 next, .int .i64 last, eSubs l]).setBox b4 [.int .i64 0, .int .i64 0, .int .i64 0, .nils]) := le_setBox (le_setBox (.refl _) hb2) h4
  unfold woV
  dsimp only
  rw [hml]
  generalize Go.Proofs.YtgliemhhnkhboaaGreatDoor.wo l x.id = wl at *
  have hKb : ∀ v, Know (((σ.setBox b2 [.int .i64 clock, .int .i64 next, .int .i64 last, eSubs l]).setBox b4 [.int .i64 0, .int .i64 0, .int .i64 0, .nils]).setBox b2 [.int .i64 clock, .int .i64 next, .int .i64 last, v]) [(b4, [.int .i64 0, .int .i64 0, .int .i64 0, .nils]), (b2, [.int .i64 clock, .int .i64 next, .int .i64 last, v])] := fun v => ((Know.nil _).add setBox_same (by simp)).add (by rw [setBox_ne n24, setBox_same]) (by simpa using n24)
  have hlen : ∀ i, i ≤ wl.length → (insR wl i x).length = wl.length + 1 := fun i h => insR_len h x
  cases o with
  | none =>
    have hwl : wl = [] := by have := hg.row; simpa [ownP] using this
    subst hwl
    obtain ⟨_, hp2⟩ | ⟨i, h, _⟩ := hpi
    · (conv => whnf)
      refine SStore.on 1 rfl ?_; (conv => whnf); refine Hid.seq ?_; refine Hid.reg ?_; (conv => whnf); refine SLoad.on 1 rfl ?_; (conv => whnf); refine SCall.p (by exact indexSub_nil w0 x) ?_; (conv => whnf); refine Hid.seq ?_; refine Hid.seq ?_; refine Hid.reg ?_; (conv => whnf); refine Hid.cond rfl ?_; refine SIf.y Ty.mixed (by exact rfl) ?_; refine Xc_h ?_; (conv => whnf); refine Hid.reg ?_
      (conv => whnf); refine SLoad.on 1 rfl ?_; (conv => whnf); refine Hid.seq ?_; refine Hid.regD ?_; refine SReg.t 1 [31] (by decide +kernel) ?_; (conv => whnf); refine SLoad.on 1 rfl ?_; (conv => whnf); refine SCall.p (by exact copied_any w0 x hxa hxq) ?_; (conv => whnf)
      refine SCall.w (insert_end w0 [] x _ none (by simp) _ _ (hg.both (cs := [.int .i64 clock, .int .i64 next, .int .i64 last, .nils]) k2)) rfl ?_; rintro r s ⟨b', cap', rfl, hg4⟩ hB4; refine ⟨_, (hKb _).le hg4.le, ?_⟩; (conv => whnf); refine SStore.on 1 rfl ?_; (conv => whnf); refine Hid.seq ?_; refine Hid.reg ?_; (conv => whnf); refine SLoad.on 1 rfl ?_; (conv => whnf); refine SStore.on 0 rfl ?_
      (conv => whnf); refine Hid.ret ?_; (conv => whnf); refine SLoad.on 0 rfl ?_; (conv => whnf)
      have m2 : b' ≠ b2 := hg4.ne (by rw [setBox_same]; rfl)
      have m4 : b' ≠ b4 := hg4.ne (by rw [setBox_ne n24, setBox_same]; rfl)
      refine .w ⟨some (b', cap'), by rw [hp2, hlen _ (Nat.le_refl _)]; rfl, ?_⟩
      rw [hp2]
      exact ((hg4.base (le_setBox hle0 hb2)).keeps hb2 fun b cap e => by cases e; exact m2).keeps h4 fun b cap e => by cases e; exact m4
    · simp at h
  | some p =>
    obtain ⟨b, cap⟩ := p
    obtain ⟨junk, hbj, _⟩ := hg.row.has
    have hbne := hg.ne k2
    have hgb := hg.both (cs := [.int .i64 clock, .int .i64 next, .int .i64 last, .msl b 0 wl.length cap]) k2
    have hix := indexSub_any w0 wl junk x b cap (by omega) (τ.setBox b2 [.int .i64 clock, .int .i64 next, .int .i64 last, .msl b 0 wl.length cap]) (by rw [setBox_ne hbne]; exact hbj)
    obtain ⟨hi1, hp2⟩ | ⟨i, hil, hi1, hp2⟩ := hpi
    · rw [hi1] at hix
      (conv => whnf); refine SStore.on 1 rfl ?_; (conv => whnf); refine Hid.seq ?_; refine Hid.reg ?_; (conv => whnf); refine SLoad.on 1 rfl ?_; (conv => whnf); refine SCall.q hix (.inr rfl) ?_; (conv => whnf); refine Hid.seq ?_; refine Hid.seq ?_; refine Hid.reg ?_; (conv => whnf); refine Hid.cond rfl ?_; refine SIf.y Ty.mixed (by exact rfl) ?_; refine Xc_h ?_; (conv => whnf); refine Hid.reg ?_
      (conv => whnf); refine SLoad.on 1 rfl ?_; (conv => whnf); refine Hid.seq ?_; refine Hid.regD ?_; refine SReg.t 1 [31] (by decide +kernel) ?_; (conv => whnf); refine SLoad.on 1 rfl ?_; (conv => whnf); refine SCall.p (by exact copied_any w0 x hxa hxq) ?_; (conv => whnf)
      refine SCall.w (insert_end w0 wl x _ (some (b, cap)) hwn _ _ hgb) rfl ?_; rintro r s ⟨b', cap', rfl, hg4⟩ hB4; refine ⟨_, (hKb _).le hg4.le, ?_⟩; (conv => whnf); refine SStore.on 1 rfl ?_; (conv => whnf); refine Hid.seq ?_; refine Hid.reg ?_; (conv => whnf); refine SLoad.on 1 rfl ?_; (conv => whnf); refine SStore.on 0 rfl ?_; (conv => whnf); refine Hid.ret ?_; (conv => whnf)
      refine SLoad.on 0 rfl ?_; (conv => whnf)
      have m2 : b' ≠ b2 := hg4.ne (by rw [setBox_same]; rfl)
      have m4 : b' ≠ b4 := hg4.ne (by rw [setBox_ne n24, setBox_same]; rfl)
      refine .w ⟨some (b', cap'), by rw [hp2, hlen _ (Nat.le_refl _)]; rfl, ?_⟩
      rw [hp2]
      exact ((hg4.base (le_setBox hle0 hb2)).keeps hb2 fun b cap e => by cases e; exact m2).keeps h4 fun b cap e => by cases e; exact m4
    · rw [hi1] at hix
      (conv => whnf); refine SStore.on 1 rfl ?_; (conv => whnf); refine Hid.seq ?_; refine Hid.reg ?_; (conv => whnf); refine SLoad.on 1 rfl ?_; (conv => whnf); refine SCall.q hix (.inr rfl) ?_; (conv => whnf); refine Hid.seq ?_; refine Hid.seq ?_; refine Hid.reg ?_; (conv => whnf); refine Hid.cond rfl ?_; refine SIf.n Ty.mixed (by exact rfl) ?_; refine Xc_h ?_; (conv => whnf); refine Hid.skip ?_
      (conv => whnf); refine Hid.seq ?_; refine Hid.regD ?_; refine SReg.t 1 [31] (by decide +kernel) ?_; (conv => whnf); refine SLoad.on 1 rfl ?_; (conv => whnf); refine SCall.p (by exact copied_any w0 x hxa hxq) ?_; (conv => whnf); refine SCall.w (insert_mid w0 wl x _ i b cap hil hwn _ _ hgb) rfl ?_; rintro r s ⟨b', cap', rfl, hg4⟩ hB4
      refine ⟨_, (hKb _).le hg4.le, ?_⟩; (conv => whnf); refine SStore.on 1 rfl ?_; (conv => whnf); refine Hid.seq ?_; refine Hid.reg ?_; (conv => whnf); refine SLoad.on 1 rfl ?_; (conv => whnf); refine SStore.on 0 rfl ?_; (conv => whnf); refine Hid.ret ?_; (conv => whnf); refine SLoad.on 0 rfl ?_; (conv => whnf)
      have m2 : b' ≠ b2 := hg4.ne (by rw [setBox_same]; rfl)
      have m4 : b' ≠ b4 := hg4.ne (by rw [setBox_ne n24, setBox_same]; rfl)
      refine .w ⟨some (b', cap'), by rw [hp2, hlen _ (Nat.le_of_lt hil)]; rfl, ?_⟩
      rw [hp2]
      exact ((hg4.base (le_setBox hle0 hb2)).keeps hb2 fun b cap e => by cases e; exact m2).keeps h4 fun b cap e => by cases e; exact m4
theorem put_any (w0 : Base) (s : Stt) (x : Sub) (hf : Fine s.subs) (hxa : x.acks.length ≤ 17592186043904) (hxq : x.queue.length ≤ 1599289640354) : CallP Tryz.prog w0 13 [eStt s, eSub x] (eStt { s with subs := putS s.subs x }) := fun σ => by
  have := CallW.sealOwn (eSub_sz _) (put_own w0 s x hf hxa hxq σ)
  exact this
theorem without_any (w0 : Base) (s : Stt) (id : Int) (hf : Fine s.subs) : CallP Tryz.prog w0 17 [eStt s, .int .i64 id] (eStt { s with subs := Go.Proofs.YtgliemhhnkhboaaGreatDoor.wo s.subs id }) := fun σ => by
  have := CallW.sealOwn (pre := [.int .i64 s.clock, .int .i64 s.next, .int .i64 s.last]) (post := []) (eSub_sz _) (without_own w0 s id hf σ)
  exact this
end Go.Proofs.YtgliemhhnkhboaaGreatDoor
end
section
set_option linter.unusedVariables false
set_option linter.unusedSimpArgs false
set_option maxRecDepth 100000
set_option maxHeartbeats 4000000
namespace Go.Proofs.YtgliemhhnkhboaaGreatDoor
open Go.Al Go.RowKit
instance : FlatEq Tryz.prog 49 := ⟨⟨_, Tryz.underlying49⟩, by kernel_rfl, by kernel_rfl⟩
theorem flat_msg (m : Msg) {fs : List Field} (h : Tryz.prog.underlying 49 = some (.struct fs.toArray)) : flatFrom Tryz.prog 0 fs (eMsg m).cells = true := by
  rw [Tryz.underlying49] at h
  simp only [Option.some.injEq, TypeDesc.struct.injEq] at h
  have h := congrArg Array.toList h
  simp only [List.toList_toArray] at h
  subst h
  simp [flatFrom, eMsg, AV.cells, cellD, Tryz.underlying3, Tryz.underlying9, Tryz.underlying4]
theorem eq_msg (m n : Msg) : eqCells (eMsg m).cells (eMsg n).cells = some (decide (m = n)) := by
  simp only [eMsg, AV.cells, eqCells, eqCell, if_true]
  obtain ⟨a1, a2, a3, a4, a5, a6, a7, a8⟩ := m
  obtain ⟨b1, b2, b3, b4, b5, b6, b7, b8⟩ := n
  congr 1
  rw [Bool.eq_iff_iff]
  simp only [Bool.and_eq_true, beq_iff_eq, decide_eq_true_eq, Msg.mk.injEq, Bool.and_true, and_true]
theorem sameMsgs_any (w0 : Base) (a b : List Msg) (ta tb : Tok) (ha : a.length ≤ 1599289640354) : CallP Tryz.prog w0 33 [.slc 8 (a.map eMsg) ta, .slc 8 (b.map eMsg) tb] (.bool (decide (a = b))) := by
  refine CallP.start Tryz.func33 rfl Tryz.ntmps33 (by simp) fun σ Q hQ => ?_
  refine W.seq ?_; refine W.regionL (by decide +kernel) rfl ?_; apply r_op; exact rfl; exact rfl; apply a_assign; (conv => (lhs; whnf)); (with_reducible refine runs_done ?_); refine W.seq ?_; refine W.seq ?_; refine W.regionL (by decide +kernel) rfl ?_; apply r_op; exact rfl; exact rfl; apply a_move; (conv => (lhs; whnf)); apply r_op; exact rfl; exact rfl; apply g_call; exact a_len_slc rfl
  apply r_op; exact rfl; exact rfl; apply a_move; (conv => (lhs; whnf)); apply r_op; exact rfl; exact rfl; apply g_call; exact a_len_slc rfl; apply r_op; exact rfl; exact rfl; apply g_binOp; exact a_binI rfl rfl rfl; (with_reducible refine runs_done ?_); refine W.cond rfl (fun hc => ?_) (fun hc => ?_); refine W.seq ?_; refine W.regionL (by decide +kernel) rfl ?_; apply r_op; exact rfl; exact rfl
  apply a_assign; (conv => (lhs; whnf)); (with_reducible refine runs_done ?_); refine W.ret ?_; show Q Exit.ret _ _; refine post_q hQ (by apply res_tmp; exact rfl; exact res_nil) (.inl rfl) (by exact .refl _) ?_; (conv => (lhs; whnf)); rotate_left; refine W.skip ?_; show W _ _ _ _ _ _ _; refine W.seq ?_; refine W.seq ?_; refine W.regionL (by decide +kernel) rfl ?_; apply r_op; exact rfl; exact rfl
  apply a_assign; (conv => (lhs; whnf)); (with_reducible refine runs_done ?_); refine W.block ?_; rotate_left
  · have : ¬ a = b := by rintro rfl; simp at hc
    simp [this]
  · have hlen : a.length = b.length := by simp at hc; omega
    clear hc
    refine W.loop (fun k E s => ∃ i : Nat, i ≤ a.length ∧ k = a.length - i ∧ s = σ ∧ a.take i = b.take i ∧ Has [(0, .slc 8 (a.map eMsg) .no), (1, .slc 8 (b.map eMsg) .no), (5, .int .i64 i)] E) a.length ⟨0, Nat.zero_le _, rfl, rfl, by simp, by exact Has.by (by repeat (first | exact trivial | refine ⟨by first | trivial | exact Weak.refl _ | exact Weak.tok _ _ _ | exact Weak.of_eq (congrArg (AV.int _) (by omega)) | exact Weak.of_eq (congrArg AV.bool (by fail)) | exact Weak.nils _ _ (.inr rfl), ?_⟩))⟩ ?_
    rintro k E s ⟨i, hi, rfl, rfl, htk, hE⟩; refine W.has hE ?_; clear hE; refine W.seq ?_; refine W.seq ?_; refine W.regionL (by decide +kernel) rfl ?_; apply r_op; exact rfl; exact rfl; apply a_move; (conv => (lhs; whnf)); apply r_op; exact rfl; exact rfl; apply a_move; (conv => (lhs; whnf)); apply r_op; exact rfl; exact rfl; apply g_call; exact a_len_slc rfl; apply r_op; exact rfl; exact rfl
    apply g_binOp; exact a_binI rfl rfl rfl; (with_reducible refine runs_done ?_); refine W.cond rfl (fun hc => ?_) (fun hc => ?_)
    · have hlt : i < a.length := by simp at hc; omega
      have ga : a[i]? = some a[i] := by simp [hlt]
      have gb : b[i]? = some (b[i]'(by omega)) := List.getElem?_eq_getElem (by omega)
      have ht := take_succ_iff hlt (show i < b.length by omega) htk
      generalize a[i] = x at ga ht
      generalize b[i]'(by omega) = y at gb ht
      refine W.skip ?_; show W _ _ _ _ _ _ _; refine W.seq ?_; refine W.block ?_; refine W.seq ?_; refine W.regionDK 1 [] Ty.mixed (by decide +kernel) (by decide +kernel) rfl ?_; apply r_op; exact rfl; exact rfl; apply a_move; (conv => (lhs; whnf)); apply r_op; exact rfl; exact rfl; apply a_move; (conv => (lhs; whnf)); apply r_op; exact rfl; exact rfl; apply g_indexAddr
      exact a_indexAddr rfl rfl (by decide) (by omega) (by exact get_map ga); apply r_op; exact rfl; exact rfl; apply g_load; exact a_loadA rfl (by rfl) rfl; apply r_op; exact rfl; exact rfl; apply a_move; (conv => (lhs; whnf)); apply r_op; exact rfl; exact rfl; apply a_move; (conv => (lhs; whnf)); apply r_op; exact rfl; exact rfl; apply g_indexAddr
      exact a_indexAddr rfl rfl (by decide) (by omega) (by exact get_map gb); apply r_op; exact rfl; exact rfl; apply g_load; exact a_loadA rfl (by rfl) rfl; apply r_eqAgg; exact rfl; exact rfl; exact rfl; exact rfl; infer_instance; exact rfl; intro fs hfs; exact flat_msg _ hfs; exact eq_msg _ _; exact rfl; (with_reducible refine runs_done ?_); refine W.cond rfl (fun hc => ?_) (fun hc => ?_)
      refine W.seq ?_; refine W.regionL (by decide +kernel) rfl ?_; apply r_op; exact rfl; exact rfl; apply a_assign; (conv => (lhs; whnf)); (with_reducible refine runs_done ?_); refine W.ret ?_; show Q Exit.ret _ _; refine post_q hQ (by apply res_tmp; exact rfl; exact res_nil) (.inl rfl) (by exact .refl _) ?_; (conv => (lhs; whnf)); rotate_left; refine W.skip ?_; show W _ _ _ _ _ _ _
      refine W.regionL (by decide +kernel) rfl ?_; apply r_op; exact rfl; exact rfl; apply a_move; (conv => (lhs; whnf)); apply r_op; exact rfl; exact rfl; apply g_binOp; exact a_add64 rfl rfl (by omega); apply r_op; exact rfl; exact rfl; apply a_assign; (conv => (lhs; whnf)); (with_reducible refine runs_done ?_); rotate_left
      · have : ¬ a = b := fun e => by subst e; rw [ga] at gb; cases gb; simp at hc
        simp [this]
      · have hxy : x = y := by simpa using hc
        exact ⟨a.length - (i + 1), by omega, i + 1, by omega, rfl, rfl, ht.2 hxy, by exact Has.by (by repeat (first | exact trivial | refine ⟨by first | trivial | exact Weak.refl _ | exact Weak.tok _ _ _ | exact Weak.of_eq (congrArg (AV.int _) (by omega)) | exact Weak.of_eq (congrArg AV.bool (by fail)) | exact Weak.nils _ _ (.inr rfl), ?_⟩))⟩
    · have hge : i = a.length := by simp at hc; omega
      refine W.exit ?_; show W _ _ _ _ _ _ _; refine W.seq ?_; refine W.regionL (by decide +kernel) rfl ?_; apply r_op; exact rfl; exact rfl; apply a_assign; (conv => (lhs; whnf)); (with_reducible refine runs_done ?_); refine W.ret ?_; show Q Exit.ret _ _; refine post_q hQ (by apply res_tmp; exact rfl; exact res_nil) (.inl rfl) (by exact .refl _) ?_; (conv => (lhs; whnf))
      have : a = b := by rw [hge, List.take_length, hlen, List.take_length] at htk; exact htk
      simp [this]
theorem sub_ext {x y : Sub} (h1 : x.id = y.id) (h2 : x.name = y.name) (h3 : x.topic = y.topic) (h4 : x.want = y.want) (h5 : x.lease = y.lease) (h6 : x.most = y.most) (h7 : x.floor = y.floor) (h8 : x.acks = y.acks) (h9 : x.queue = y.queue) (h10 : x.note = y.note) : x = y := by
  cases x; cases y; simp_all
theorem sameSub_any (w0 : Base) (x y : Sub) (hq : x.queue.length ≤ 1599289640354) (ha : x.acks.length ≤ 17592186043904) : CallP Tryz.prog w0 15 [eSub x, eSub y] (.bool (decide (x = y))) := by
  refine CallP.start Tryz.func15 rfl Tryz.ntmps15 (by simp) fun σ Q hQ => ?_
  refine W.seq ?_; refine W.regionL (by decide +kernel) rfl ?_; apply r_boxF; exact rfl; exact rfl; exact rfl; (conv => (lhs; whnf)); exact rfl; apply r_boxF; exact rfl; exact rfl; exact rfl; (conv => (lhs; whnf)); exact rfl; apply r_op; exact rfl; exact rfl; apply a_assign; (conv => (lhs; whnf)); (with_reducible refine runs_done ?_); refine W.seq ?_; refine W.seq ?_
  refine W.regionL (by decide +kernel) rfl ?_; apply r_op; exact rfl; exact rfl; apply g_fieldAddr; exact a_fieldAddr1 rfl (by decide) rfl; apply r_op; exact rfl; exact rfl; apply g_load; exact a_load1 rfl rfl; apply r_op; exact rfl; exact rfl; apply g_fieldAddr; exact a_fieldAddr1 rfl (by decide) rfl; apply r_op; exact rfl; exact rfl; apply g_load; exact a_load1 rfl rfl; apply r_op; exact rfl
  exact rfl; apply g_binOp; exact a_binI rfl rfl rfl; apply r_op; exact rfl; exact rfl; apply a_move; (conv => (lhs; whnf)); refine q_split rfl rfl rfl (fun hg => ?_) (fun hg => ?_); apply q_skip; exact rfl; exact want_f rfl rfl rfl (by assumption); apply q_skip; exact rfl; exact want_f rfl rfl rfl (by assumption); apply q_skip; exact rfl; exact want_f rfl rfl rfl (by assumption); apply q_skip
  exact rfl; exact want_f rfl rfl rfl (by assumption); apply q_skip; exact rfl; exact want_f rfl rfl rfl (by assumption); apply r_op; exact rfl; exact rfl; apply g_pick; apply a_pickT rfl (by assumption); (conv => (lhs; whnf)); apply r_op; exact rfl; exact rfl; apply a_move; (conv => (lhs; whnf)); apply q_skip; exact rfl; exact want_f rfl rfl rfl (by exact rfl); apply q_skip; exact rfl
  exact want_f rfl rfl rfl (by exact rfl); apply q_skip; exact rfl; exact want_f rfl rfl rfl (by exact rfl); apply q_skip; exact rfl; exact want_f rfl rfl rfl (by exact rfl); apply q_skip; exact rfl; exact want_f rfl rfl rfl (by exact rfl); apply r_op; exact rfl; exact rfl; apply g_pick; apply a_pickT rfl (by exact rfl); (conv => (lhs; whnf)); apply r_op; exact rfl; exact rfl; apply a_move
  (conv => (lhs; whnf)); apply q_skip; exact rfl; exact want_f rfl rfl rfl (by exact rfl); apply q_skip; exact rfl; exact want_f rfl rfl rfl (by exact rfl); apply q_skip; exact rfl; exact want_f rfl rfl rfl (by exact rfl); apply q_skip; exact rfl; exact want_f rfl rfl rfl (by exact rfl); apply q_skip; exact rfl; exact want_f rfl rfl rfl (by exact rfl); apply r_op; exact rfl; exact rfl; apply g_pick
  apply a_pickT rfl (by exact rfl); (conv => (lhs; whnf)); apply r_op; exact rfl; exact rfl; apply a_move; (conv => (lhs; whnf)); apply q_skip; exact rfl; exact want_f rfl rfl rfl (by exact rfl); apply q_skip; exact rfl; exact want_f rfl rfl rfl (by exact rfl); apply q_skip; exact rfl; exact want_f rfl rfl rfl (by exact rfl); apply q_skip; exact rfl; exact want_f rfl rfl rfl (by exact rfl)
  apply q_skip; exact rfl; exact want_f rfl rfl rfl (by exact rfl); apply r_op; exact rfl; exact rfl; apply g_pick; apply a_pickT rfl (by exact rfl); (conv => (lhs; whnf)); apply r_op; exact rfl; exact rfl; apply a_move; (conv => (lhs; whnf)); apply q_skip; exact rfl; exact want_f rfl rfl rfl (by exact rfl); apply q_skip; exact rfl; exact want_f rfl rfl rfl (by exact rfl); apply q_skip; exact rfl
  exact want_f rfl rfl rfl (by exact rfl); apply q_skip; exact rfl; exact want_f rfl rfl rfl (by exact rfl); apply q_skip; exact rfl; exact want_f rfl rfl rfl (by exact rfl); apply r_op; exact rfl; exact rfl; apply g_pick; apply a_pickT rfl (by exact rfl); (conv => (lhs; whnf)); apply r_op; exact rfl; exact rfl; apply a_move; (conv => (lhs; whnf)); apply q_skip; exact rfl
  exact want_f rfl rfl rfl (by exact rfl); apply q_skip; exact rfl; exact want_f rfl rfl rfl (by exact rfl); apply q_skip; exact rfl; exact want_f rfl rfl rfl (by exact rfl); apply q_skip; exact rfl; exact want_f rfl rfl rfl (by exact rfl); apply q_skip; exact rfl; exact want_f rfl rfl rfl (by exact rfl); apply r_op; exact rfl; exact rfl; apply g_pick; apply a_pickT rfl (by exact rfl)
  (conv => (lhs; whnf)); apply r_op; exact rfl; exact rfl; apply a_move; (conv => (lhs; whnf)); apply q_skip; exact rfl; exact want_f rfl rfl rfl (by exact rfl); apply q_skip; exact rfl; exact want_f rfl rfl rfl (by exact rfl); apply q_skip; exact rfl; exact want_f rfl rfl rfl (by exact rfl); apply q_skip; exact rfl; exact want_f rfl rfl rfl (by exact rfl); apply q_skip; exact rfl
  exact want_f rfl rfl rfl (by exact rfl); apply r_op; exact rfl; exact rfl; apply g_pick; apply a_pickT rfl (by exact rfl); (conv => (lhs; whnf)); apply r_op; exact rfl; exact rfl; apply a_move; (conv => (lhs; whnf)); apply q_skip; exact rfl; exact want_f rfl rfl rfl (by exact rfl); apply q_skip; exact rfl; exact want_f rfl rfl rfl (by exact rfl); apply q_skip; exact rfl
  exact want_f rfl rfl rfl (by exact rfl); apply q_skip; exact rfl; exact want_f rfl rfl rfl (by exact rfl); apply q_skip; exact rfl; exact want_f rfl rfl rfl (by exact rfl); apply q_skip; exact rfl; exact want_f rfl rfl rfl (by exact rfl); apply q_skip; exact rfl; exact want_f rfl rfl rfl (by exact rfl); apply r_op; exact rfl; exact rfl; apply g_pick; apply a_pickT rfl (by exact rfl)
  (conv => (lhs; whnf)); (with_reducible refine runs_done ?_); refine W.condT rfl (by exact rfl) ?_; refine W.seq ?_; refine W.regionL (by decide +kernel) rfl ?_; apply r_op; exact rfl; exact rfl; apply a_assign; (conv => (lhs; whnf)); (with_reducible refine runs_done ?_); refine W.ret ?_; show Q Exit.ret _ _
  refine post_q hQ (by apply res_tmp; exact rfl; exact res_nil) (.inl rfl) (by exact .refl _) ?_; (conv => (lhs; whnf)); rotate_left; apply r_op; exact rfl; exact want_t rfl rfl rfl (by assumption); apply g_fieldAddr; exact a_fieldAddr1 rfl (by decide) rfl; apply r_op; exact rfl; exact want_t rfl rfl rfl (by assumption); apply g_load; exact a_load1 rfl rfl; apply r_op; exact rfl
  exact want_t rfl rfl rfl (by assumption); apply g_fieldAddr; exact a_fieldAddr1 rfl (by decide) rfl; apply r_op; exact rfl; exact want_t rfl rfl rfl (by assumption); apply g_load; exact a_load1 rfl rfl; apply r_op; exact rfl; exact want_t rfl rfl rfl (by assumption); apply g_binOp; exact a_binS rfl rfl rfl rfl; apply r_op; exact rfl; exact rfl; apply g_pick; apply a_pickF rfl (by assumption)
  (conv => (lhs; whnf)); apply r_op; exact rfl; exact rfl; apply a_move; (conv => (lhs; whnf)); refine q_split rfl rfl rfl (fun hg => ?_) (fun hg => ?_); apply q_skip; exact rfl; exact want_f rfl rfl rfl (by assumption); apply q_skip; exact rfl; exact want_f rfl rfl rfl (by assumption); apply q_skip; exact rfl; exact want_f rfl rfl rfl (by assumption); apply q_skip; exact rfl
  exact want_f rfl rfl rfl (by assumption); apply q_skip; exact rfl; exact want_f rfl rfl rfl (by assumption); apply r_op; exact rfl; exact rfl; apply g_pick; apply a_pickT rfl (by assumption); (conv => (lhs; whnf)); apply r_op; exact rfl; exact rfl; apply a_move; (conv => (lhs; whnf)); apply q_skip; exact rfl; exact want_f rfl rfl rfl (by exact rfl); apply q_skip; exact rfl
  exact want_f rfl rfl rfl (by exact rfl); apply q_skip; exact rfl; exact want_f rfl rfl rfl (by exact rfl); apply q_skip; exact rfl; exact want_f rfl rfl rfl (by exact rfl); apply q_skip; exact rfl; exact want_f rfl rfl rfl (by exact rfl); apply r_op; exact rfl; exact rfl; apply g_pick; apply a_pickT rfl (by exact rfl); (conv => (lhs; whnf)); apply r_op; exact rfl; exact rfl; apply a_move
  (conv => (lhs; whnf)); apply q_skip; exact rfl; exact want_f rfl rfl rfl (by exact rfl); apply q_skip; exact rfl; exact want_f rfl rfl rfl (by exact rfl); apply q_skip; exact rfl; exact want_f rfl rfl rfl (by exact rfl); apply q_skip; exact rfl; exact want_f rfl rfl rfl (by exact rfl); apply q_skip; exact rfl; exact want_f rfl rfl rfl (by exact rfl); apply r_op; exact rfl; exact rfl; apply g_pick
  apply a_pickT rfl (by exact rfl); (conv => (lhs; whnf)); apply r_op; exact rfl; exact rfl; apply a_move; (conv => (lhs; whnf)); apply q_skip; exact rfl; exact want_f rfl rfl rfl (by exact rfl); apply q_skip; exact rfl; exact want_f rfl rfl rfl (by exact rfl); apply q_skip; exact rfl; exact want_f rfl rfl rfl (by exact rfl); apply q_skip; exact rfl; exact want_f rfl rfl rfl (by exact rfl)
  apply q_skip; exact rfl; exact want_f rfl rfl rfl (by exact rfl); apply r_op; exact rfl; exact rfl; apply g_pick; apply a_pickT rfl (by exact rfl); (conv => (lhs; whnf)); apply r_op; exact rfl; exact rfl; apply a_move; (conv => (lhs; whnf)); apply q_skip; exact rfl; exact want_f rfl rfl rfl (by exact rfl); apply q_skip; exact rfl; exact want_f rfl rfl rfl (by exact rfl); apply q_skip; exact rfl
  exact want_f rfl rfl rfl (by exact rfl); apply q_skip; exact rfl; exact want_f rfl rfl rfl (by exact rfl); apply q_skip; exact rfl; exact want_f rfl rfl rfl (by exact rfl); apply r_op; exact rfl; exact rfl; apply g_pick; apply a_pickT rfl (by exact rfl); (conv => (lhs; whnf)); apply r_op; exact rfl; exact rfl; apply a_move; (conv => (lhs; whnf)); apply q_skip; exact rfl
  exact want_f rfl rfl rfl (by exact rfl); apply q_skip; exact rfl; exact want_f rfl rfl rfl (by exact rfl); apply q_skip; exact rfl; exact want_f rfl rfl rfl (by exact rfl); apply q_skip; exact rfl; exact want_f rfl rfl rfl (by exact rfl); apply q_skip; exact rfl; exact want_f rfl rfl rfl (by exact rfl); apply r_op; exact rfl; exact rfl; apply g_pick; apply a_pickT rfl (by exact rfl)
  (conv => (lhs; whnf)); apply r_op; exact rfl; exact rfl; apply a_move; (conv => (lhs; whnf)); apply q_skip; exact rfl; exact want_f rfl rfl rfl (by exact rfl); apply q_skip; exact rfl; exact want_f rfl rfl rfl (by exact rfl); apply q_skip; exact rfl; exact want_f rfl rfl rfl (by exact rfl); apply q_skip; exact rfl; exact want_f rfl rfl rfl (by exact rfl); apply q_skip; exact rfl
  exact want_f rfl rfl rfl (by exact rfl); apply q_skip; exact rfl; exact want_f rfl rfl rfl (by exact rfl); apply q_skip; exact rfl; exact want_f rfl rfl rfl (by exact rfl); apply r_op; exact rfl; exact rfl; apply g_pick; apply a_pickT rfl (by exact rfl); (conv => (lhs; whnf)); (with_reducible refine runs_done ?_); refine W.condT rfl (by exact rfl) ?_; refine W.seq ?_
  refine W.regionL (by decide +kernel) rfl ?_; apply r_op; exact rfl; exact rfl; apply a_assign; (conv => (lhs; whnf)); (with_reducible refine runs_done ?_); refine W.ret ?_; show Q Exit.ret _ _; refine post_q hQ (by apply res_tmp; exact rfl; exact res_nil) (.inl rfl) (by exact .refl _) ?_; (conv => (lhs; whnf)); rotate_left; apply r_op; exact rfl; exact want_t rfl rfl rfl (by assumption)
  apply g_fieldAddr; exact a_fieldAddr1 rfl (by decide) rfl; apply r_op; exact rfl; exact want_t rfl rfl rfl (by assumption); apply g_load; exact a_load1 rfl rfl; apply r_op; exact rfl; exact want_t rfl rfl rfl (by assumption); apply g_fieldAddr; exact a_fieldAddr1 rfl (by decide) rfl; apply r_op; exact rfl; exact want_t rfl rfl rfl (by assumption); apply g_load; exact a_load1 rfl rfl; apply r_op
  exact rfl; exact want_t rfl rfl rfl (by assumption); apply g_binOp; exact a_binS rfl rfl rfl rfl; apply r_op; exact rfl; exact rfl; apply g_pick; apply a_pickF rfl (by assumption); (conv => (lhs; whnf)); apply r_op; exact rfl; exact rfl; apply a_move; (conv => (lhs; whnf)); refine q_split rfl rfl rfl (fun hg => ?_) (fun hg => ?_); apply q_skip; exact rfl; exact want_f rfl rfl rfl (by assumption)
  apply q_skip; exact rfl; exact want_f rfl rfl rfl (by assumption); apply q_skip; exact rfl; exact want_f rfl rfl rfl (by assumption); apply q_skip; exact rfl; exact want_f rfl rfl rfl (by assumption); apply q_skip; exact rfl; exact want_f rfl rfl rfl (by assumption); apply r_op; exact rfl; exact rfl; apply g_pick; apply a_pickT rfl (by assumption); (conv => (lhs; whnf)); apply r_op; exact rfl
  exact rfl; apply a_move; (conv => (lhs; whnf)); apply q_skip; exact rfl; exact want_f rfl rfl rfl (by exact rfl); apply q_skip; exact rfl; exact want_f rfl rfl rfl (by exact rfl); apply q_skip; exact rfl; exact want_f rfl rfl rfl (by exact rfl); apply q_skip; exact rfl; exact want_f rfl rfl rfl (by exact rfl); apply q_skip; exact rfl; exact want_f rfl rfl rfl (by exact rfl); apply r_op; exact rfl
  exact rfl; apply g_pick; apply a_pickT rfl (by exact rfl); (conv => (lhs; whnf)); apply r_op; exact rfl; exact rfl; apply a_move; (conv => (lhs; whnf)); apply q_skip; exact rfl; exact want_f rfl rfl rfl (by exact rfl); apply q_skip; exact rfl; exact want_f rfl rfl rfl (by exact rfl); apply q_skip; exact rfl; exact want_f rfl rfl rfl (by exact rfl); apply q_skip; exact rfl
  exact want_f rfl rfl rfl (by exact rfl); apply q_skip; exact rfl; exact want_f rfl rfl rfl (by exact rfl); apply r_op; exact rfl; exact rfl; apply g_pick; apply a_pickT rfl (by exact rfl); (conv => (lhs; whnf)); apply r_op; exact rfl; exact rfl; apply a_move; (conv => (lhs; whnf)); apply q_skip; exact rfl; exact want_f rfl rfl rfl (by exact rfl); apply q_skip; exact rfl
  exact want_f rfl rfl rfl (by exact rfl); apply q_skip; exact rfl; exact want_f rfl rfl rfl (by exact rfl); apply q_skip; exact rfl; exact want_f rfl rfl rfl (by exact rfl); apply q_skip; exact rfl; exact want_f rfl rfl rfl (by exact rfl); apply r_op; exact rfl; exact rfl; apply g_pick; apply a_pickT rfl (by exact rfl); (conv => (lhs; whnf)); apply r_op; exact rfl; exact rfl; apply a_move
  (conv => (lhs; whnf)); apply q_skip; exact rfl; exact want_f rfl rfl rfl (by exact rfl); apply q_skip; exact rfl; exact want_f rfl rfl rfl (by exact rfl); apply q_skip; exact rfl; exact want_f rfl rfl rfl (by exact rfl); apply q_skip; exact rfl; exact want_f rfl rfl rfl (by exact rfl); apply q_skip; exact rfl; exact want_f rfl rfl rfl (by exact rfl); apply r_op; exact rfl; exact rfl; apply g_pick
  apply a_pickT rfl (by exact rfl); (conv => (lhs; whnf)); apply r_op; exact rfl; exact rfl; apply a_move; (conv => (lhs; whnf)); apply q_skip; exact rfl; exact want_f rfl rfl rfl (by exact rfl); apply q_skip; exact rfl; exact want_f rfl rfl rfl (by exact rfl); apply q_skip; exact rfl; exact want_f rfl rfl rfl (by exact rfl); apply q_skip; exact rfl; exact want_f rfl rfl rfl (by exact rfl)
  apply q_skip; exact rfl; exact want_f rfl rfl rfl (by exact rfl); apply q_skip; exact rfl; exact want_f rfl rfl rfl (by exact rfl); apply q_skip; exact rfl; exact want_f rfl rfl rfl (by exact rfl); apply r_op; exact rfl; exact rfl; apply g_pick; apply a_pickT rfl (by exact rfl); (conv => (lhs; whnf)); (with_reducible refine runs_done ?_); refine W.condT rfl (by exact rfl) ?_; refine W.seq ?_
  refine W.regionL (by decide +kernel) rfl ?_; apply r_op; exact rfl; exact rfl; apply a_assign; (conv => (lhs; whnf)); (with_reducible refine runs_done ?_); refine W.ret ?_; show Q Exit.ret _ _; refine post_q hQ (by apply res_tmp; exact rfl; exact res_nil) (.inl rfl) (by exact .refl _) ?_; (conv => (lhs; whnf)); rotate_left; apply r_op; exact rfl; exact want_t rfl rfl rfl (by assumption)
  apply g_fieldAddr; exact a_fieldAddr1 rfl (by decide) rfl; apply r_op; exact rfl; exact want_t rfl rfl rfl (by assumption); apply g_load; exact a_load1 rfl rfl; apply r_op; exact rfl; exact want_t rfl rfl rfl (by assumption); apply g_fieldAddr; exact a_fieldAddr1 rfl (by decide) rfl; apply r_op; exact rfl; exact want_t rfl rfl rfl (by assumption); apply g_load; exact a_load1 rfl rfl; apply r_op
  exact rfl; exact want_t rfl rfl rfl (by assumption); apply g_binOp; exact a_binS rfl rfl rfl rfl; apply r_op; exact rfl; exact rfl; apply g_pick; apply a_pickF rfl (by assumption); (conv => (lhs; whnf)); apply r_op; exact rfl; exact rfl; apply a_move; (conv => (lhs; whnf)); refine q_split rfl rfl rfl (fun hg => ?_) (fun hg => ?_); apply q_skip; exact rfl; exact want_f rfl rfl rfl (by assumption)
  apply q_skip; exact rfl; exact want_f rfl rfl rfl (by assumption); apply q_skip; exact rfl; exact want_f rfl rfl rfl (by assumption); apply q_skip; exact rfl; exact want_f rfl rfl rfl (by assumption); apply q_skip; exact rfl; exact want_f rfl rfl rfl (by assumption); apply r_op; exact rfl; exact rfl; apply g_pick; apply a_pickT rfl (by assumption); (conv => (lhs; whnf)); apply r_op; exact rfl
  exact rfl; apply a_move; (conv => (lhs; whnf)); apply q_skip; exact rfl; exact want_f rfl rfl rfl (by exact rfl); apply q_skip; exact rfl; exact want_f rfl rfl rfl (by exact rfl); apply q_skip; exact rfl; exact want_f rfl rfl rfl (by exact rfl); apply q_skip; exact rfl; exact want_f rfl rfl rfl (by exact rfl); apply q_skip; exact rfl; exact want_f rfl rfl rfl (by exact rfl); apply r_op; exact rfl
  exact rfl; apply g_pick; apply a_pickT rfl (by exact rfl); (conv => (lhs; whnf)); apply r_op; exact rfl; exact rfl; apply a_move; (conv => (lhs; whnf)); apply q_skip; exact rfl; exact want_f rfl rfl rfl (by exact rfl); apply q_skip; exact rfl; exact want_f rfl rfl rfl (by exact rfl); apply q_skip; exact rfl; exact want_f rfl rfl rfl (by exact rfl); apply q_skip; exact rfl
  exact want_f rfl rfl rfl (by exact rfl); apply q_skip; exact rfl; exact want_f rfl rfl rfl (by exact rfl); apply r_op; exact rfl; exact rfl; apply g_pick; apply a_pickT rfl (by exact rfl); (conv => (lhs; whnf)); apply r_op; exact rfl; exact rfl; apply a_move; (conv => (lhs; whnf)); apply q_skip; exact rfl; exact want_f rfl rfl rfl (by exact rfl); apply q_skip; exact rfl
  exact want_f rfl rfl rfl (by exact rfl); apply q_skip; exact rfl; exact want_f rfl rfl rfl (by exact rfl); apply q_skip; exact rfl; exact want_f rfl rfl rfl (by exact rfl); apply q_skip; exact rfl; exact want_f rfl rfl rfl (by exact rfl); apply r_op; exact rfl; exact rfl; apply g_pick; apply a_pickT rfl (by exact rfl); (conv => (lhs; whnf)); apply r_op; exact rfl; exact rfl; apply a_move
  (conv => (lhs; whnf)); apply q_skip; exact rfl; exact want_f rfl rfl rfl (by exact rfl); apply q_skip; exact rfl; exact want_f rfl rfl rfl (by exact rfl); apply q_skip; exact rfl; exact want_f rfl rfl rfl (by exact rfl); apply q_skip; exact rfl; exact want_f rfl rfl rfl (by exact rfl); apply q_skip; exact rfl; exact want_f rfl rfl rfl (by exact rfl); apply q_skip; exact rfl
  exact want_f rfl rfl rfl (by exact rfl); apply q_skip; exact rfl; exact want_f rfl rfl rfl (by exact rfl); apply r_op; exact rfl; exact rfl; apply g_pick; apply a_pickT rfl (by exact rfl); (conv => (lhs; whnf)); (with_reducible refine runs_done ?_); refine W.condT rfl (by exact rfl) ?_; refine W.seq ?_; refine W.regionL (by decide +kernel) rfl ?_; apply r_op; exact rfl; exact rfl; apply a_assign
  (conv => (lhs; whnf)); (with_reducible refine runs_done ?_); refine W.ret ?_; show Q Exit.ret _ _; refine post_q hQ (by apply res_tmp; exact rfl; exact res_nil) (.inl rfl) (by exact .refl _) ?_; (conv => (lhs; whnf)); rotate_left; apply r_op; exact rfl; exact want_t rfl rfl rfl (by assumption); apply g_fieldAddr; exact a_fieldAddr1 rfl (by decide) rfl; apply r_op; exact rfl
  exact want_t rfl rfl rfl (by assumption); apply g_load; exact a_load1 rfl rfl; apply r_op; exact rfl; exact want_t rfl rfl rfl (by assumption); apply g_fieldAddr; exact a_fieldAddr1 rfl (by decide) rfl; apply r_op; exact rfl; exact want_t rfl rfl rfl (by assumption); apply g_load; exact a_load1 rfl rfl; apply r_op; exact rfl; exact want_t rfl rfl rfl (by assumption); apply g_binOp
  exact a_binI rfl rfl rfl; apply r_op; exact rfl; exact rfl; apply g_pick; apply a_pickF rfl (by assumption); (conv => (lhs; whnf)); apply r_op; exact rfl; exact rfl; apply a_move; (conv => (lhs; whnf)); refine q_split rfl rfl rfl (fun hg => ?_) (fun hg => ?_); apply q_skip; exact rfl; exact want_f rfl rfl rfl (by assumption); apply q_skip; exact rfl; exact want_f rfl rfl rfl (by assumption)
  apply q_skip; exact rfl; exact want_f rfl rfl rfl (by assumption); apply q_skip; exact rfl; exact want_f rfl rfl rfl (by assumption); apply q_skip; exact rfl; exact want_f rfl rfl rfl (by assumption); apply r_op; exact rfl; exact rfl; apply g_pick; apply a_pickT rfl (by assumption); (conv => (lhs; whnf)); apply r_op; exact rfl; exact rfl; apply a_move; (conv => (lhs; whnf)); apply q_skip
  exact rfl; exact want_f rfl rfl rfl (by exact rfl); apply q_skip; exact rfl; exact want_f rfl rfl rfl (by exact rfl); apply q_skip; exact rfl; exact want_f rfl rfl rfl (by exact rfl); apply q_skip; exact rfl; exact want_f rfl rfl rfl (by exact rfl); apply q_skip; exact rfl; exact want_f rfl rfl rfl (by exact rfl); apply r_op; exact rfl; exact rfl; apply g_pick; apply a_pickT rfl (by exact rfl)
  (conv => (lhs; whnf)); apply r_op; exact rfl; exact rfl; apply a_move; (conv => (lhs; whnf)); apply q_skip; exact rfl; exact want_f rfl rfl rfl (by exact rfl); apply q_skip; exact rfl; exact want_f rfl rfl rfl (by exact rfl); apply q_skip; exact rfl; exact want_f rfl rfl rfl (by exact rfl); apply q_skip; exact rfl; exact want_f rfl rfl rfl (by exact rfl); apply q_skip; exact rfl
  exact want_f rfl rfl rfl (by exact rfl); apply r_op; exact rfl; exact rfl; apply g_pick; apply a_pickT rfl (by exact rfl); (conv => (lhs; whnf)); apply r_op; exact rfl; exact rfl; apply a_move; (conv => (lhs; whnf)); apply q_skip; exact rfl; exact want_f rfl rfl rfl (by exact rfl); apply q_skip; exact rfl; exact want_f rfl rfl rfl (by exact rfl); apply q_skip; exact rfl
  exact want_f rfl rfl rfl (by exact rfl); apply q_skip; exact rfl; exact want_f rfl rfl rfl (by exact rfl); apply q_skip; exact rfl; exact want_f rfl rfl rfl (by exact rfl); apply q_skip; exact rfl; exact want_f rfl rfl rfl (by exact rfl); apply q_skip; exact rfl; exact want_f rfl rfl rfl (by exact rfl); apply r_op; exact rfl; exact rfl; apply g_pick; apply a_pickT rfl (by exact rfl)
  (conv => (lhs; whnf)); (with_reducible refine runs_done ?_); refine W.condT rfl (by exact rfl) ?_; refine W.seq ?_; refine W.regionL (by decide +kernel) rfl ?_; apply r_op; exact rfl; exact rfl; apply a_assign; (conv => (lhs; whnf)); (with_reducible refine runs_done ?_); refine W.ret ?_; show Q Exit.ret _ _
  refine post_q hQ (by apply res_tmp; exact rfl; exact res_nil) (.inl rfl) (by exact .refl _) ?_; (conv => (lhs; whnf)); rotate_left; apply r_op; exact rfl; exact want_t rfl rfl rfl (by assumption); apply g_fieldAddr; exact a_fieldAddr1 rfl (by decide) rfl; apply r_op; exact rfl; exact want_t rfl rfl rfl (by assumption); apply g_load; exact a_load1 rfl rfl; apply r_op; exact rfl
  exact want_t rfl rfl rfl (by assumption); apply g_fieldAddr; exact a_fieldAddr1 rfl (by decide) rfl; apply r_op; exact rfl; exact want_t rfl rfl rfl (by assumption); apply g_load; exact a_load1 rfl rfl; apply r_op; exact rfl; exact want_t rfl rfl rfl (by assumption); apply g_binOp; exact a_binI rfl rfl rfl; apply r_op; exact rfl; exact rfl; apply g_pick; apply a_pickF rfl (by assumption)
  (conv => (lhs; whnf)); apply r_op; exact rfl; exact rfl; apply a_move; (conv => (lhs; whnf)); refine q_split rfl rfl rfl (fun hg => ?_) (fun hg => ?_); apply q_skip; exact rfl; exact want_f rfl rfl rfl (by assumption); apply q_skip; exact rfl; exact want_f rfl rfl rfl (by assumption); apply q_skip; exact rfl; exact want_f rfl rfl rfl (by assumption); apply q_skip; exact rfl
  exact want_f rfl rfl rfl (by assumption); apply q_skip; exact rfl; exact want_f rfl rfl rfl (by assumption); apply r_op; exact rfl; exact rfl; apply g_pick; apply a_pickT rfl (by assumption); (conv => (lhs; whnf)); apply r_op; exact rfl; exact rfl; apply a_move; (conv => (lhs; whnf)); apply q_skip; exact rfl; exact want_f rfl rfl rfl (by exact rfl); apply q_skip; exact rfl
  exact want_f rfl rfl rfl (by exact rfl); apply q_skip; exact rfl; exact want_f rfl rfl rfl (by exact rfl); apply q_skip; exact rfl; exact want_f rfl rfl rfl (by exact rfl); apply q_skip; exact rfl; exact want_f rfl rfl rfl (by exact rfl); apply r_op; exact rfl; exact rfl; apply g_pick; apply a_pickT rfl (by exact rfl); (conv => (lhs; whnf)); apply r_op; exact rfl; exact rfl; apply a_move
  (conv => (lhs; whnf)); apply q_skip; exact rfl; exact want_f rfl rfl rfl (by exact rfl); apply q_skip; exact rfl; exact want_f rfl rfl rfl (by exact rfl); apply q_skip; exact rfl; exact want_f rfl rfl rfl (by exact rfl); apply q_skip; exact rfl; exact want_f rfl rfl rfl (by exact rfl); apply q_skip; exact rfl; exact want_f rfl rfl rfl (by exact rfl); apply q_skip; exact rfl
  exact want_f rfl rfl rfl (by exact rfl); apply q_skip; exact rfl; exact want_f rfl rfl rfl (by exact rfl); apply r_op; exact rfl; exact rfl; apply g_pick; apply a_pickT rfl (by exact rfl); (conv => (lhs; whnf)); (with_reducible refine runs_done ?_); refine W.condT rfl (by exact rfl) ?_; refine W.seq ?_; refine W.regionL (by decide +kernel) rfl ?_; apply r_op; exact rfl; exact rfl; apply a_assign
  (conv => (lhs; whnf)); (with_reducible refine runs_done ?_); refine W.ret ?_; show Q Exit.ret _ _; refine post_q hQ (by apply res_tmp; exact rfl; exact res_nil) (.inl rfl) (by exact .refl _) ?_; (conv => (lhs; whnf)); rotate_left; apply r_op; exact rfl; exact want_t rfl rfl rfl (by assumption); apply g_fieldAddr; exact a_fieldAddr1 rfl (by decide) rfl; apply r_op; exact rfl
  exact want_t rfl rfl rfl (by assumption); apply g_load; exact a_load1 rfl rfl; apply r_op; exact rfl; exact want_t rfl rfl rfl (by assumption); apply g_fieldAddr; exact a_fieldAddr1 rfl (by decide) rfl; apply r_op; exact rfl; exact want_t rfl rfl rfl (by assumption); apply g_load; exact a_load1 rfl rfl; apply r_op; exact rfl; exact want_t rfl rfl rfl (by assumption); apply g_binOp
  exact a_binI rfl rfl rfl; apply r_op; exact rfl; exact rfl; apply g_pick; apply a_pickF rfl (by assumption); (conv => (lhs; whnf)); apply r_op; exact rfl; exact rfl; apply a_move; (conv => (lhs; whnf)); refine q_split rfl rfl rfl (fun hg => ?_) (fun hg => ?_); apply q_skip; exact rfl; exact want_f rfl rfl rfl (by assumption); apply q_skip; exact rfl; exact want_f rfl rfl rfl (by assumption)
  apply q_skip; exact rfl; exact want_f rfl rfl rfl (by assumption); apply q_skip; exact rfl; exact want_f rfl rfl rfl (by assumption); apply q_skip; exact rfl; exact want_f rfl rfl rfl (by assumption); apply r_op; exact rfl; exact rfl; apply g_pick; apply a_pickT rfl (by assumption); (conv => (lhs; whnf)); apply r_op; exact rfl; exact rfl; apply a_move; (conv => (lhs; whnf)); apply q_skip
  exact rfl; exact want_f rfl rfl rfl (by exact rfl); apply q_skip; exact rfl; exact want_f rfl rfl rfl (by exact rfl); apply q_skip; exact rfl; exact want_f rfl rfl rfl (by exact rfl); apply q_skip; exact rfl; exact want_f rfl rfl rfl (by exact rfl); apply q_skip; exact rfl; exact want_f rfl rfl rfl (by exact rfl); apply q_skip; exact rfl; exact want_f rfl rfl rfl (by exact rfl); apply q_skip
  exact rfl; exact want_f rfl rfl rfl (by exact rfl); apply r_op; exact rfl; exact rfl; apply g_pick; apply a_pickT rfl (by exact rfl); (conv => (lhs; whnf)); (with_reducible refine runs_done ?_); refine W.condT rfl (by exact rfl) ?_; refine W.seq ?_; refine W.regionL (by decide +kernel) rfl ?_; apply r_op; exact rfl; exact rfl; apply a_assign; (conv => (lhs; whnf))
  (with_reducible refine runs_done ?_); refine W.ret ?_; show Q Exit.ret _ _; refine post_q hQ (by apply res_tmp; exact rfl; exact res_nil) (.inl rfl) (by exact .refl _) ?_; (conv => (lhs; whnf)); rotate_left; apply r_op; exact rfl; exact want_t rfl rfl rfl (by assumption); apply g_fieldAddr; exact a_fieldAddr1 rfl (by decide) rfl; apply r_op; exact rfl; exact want_t rfl rfl rfl (by assumption)
  apply g_load; exact a_load1 rfl rfl; apply r_op; exact rfl; exact want_t rfl rfl rfl (by assumption); apply g_fieldAddr; exact a_fieldAddr1 rfl (by decide) rfl; apply r_op; exact rfl; exact want_t rfl rfl rfl (by assumption); apply g_load; exact a_load1 rfl rfl; apply r_op; exact rfl; exact want_t rfl rfl rfl (by assumption); apply g_binOp; exact a_binS rfl rfl rfl rfl; apply r_op; exact rfl
  exact rfl; apply g_pick; apply a_pickF rfl (by assumption); (conv => (lhs; whnf)); apply r_op; exact rfl; exact rfl; apply a_move; (conv => (lhs; whnf)); refine q_split rfl rfl rfl (fun hg => ?_) (fun hg => ?_); apply q_skip; exact rfl; exact want_f rfl rfl rfl (by assumption); apply q_skip; exact rfl; exact want_f rfl rfl rfl (by assumption); apply q_skip; exact rfl
  exact want_f rfl rfl rfl (by assumption); apply q_skip; exact rfl; exact want_f rfl rfl rfl (by assumption); apply q_skip; exact rfl; exact want_f rfl rfl rfl (by assumption); apply q_skip; exact rfl; exact want_f rfl rfl rfl (by assumption); apply q_skip; exact rfl; exact want_f rfl rfl rfl (by assumption); apply r_op; exact rfl; exact rfl; apply g_pick; apply a_pickT rfl (by assumption)
  (conv => (lhs; whnf)); (with_reducible refine runs_done ?_); refine W.condT rfl (by exact rfl) ?_; refine W.seq ?_; refine W.regionL (by decide +kernel) rfl ?_; apply r_op; exact rfl; exact rfl; apply a_assign; (conv => (lhs; whnf)); (with_reducible refine runs_done ?_); refine W.ret ?_; show Q Exit.ret _ _
  refine post_q hQ (by apply res_tmp; exact rfl; exact res_nil) (.inl rfl) (by exact .refl _) ?_; (conv => (lhs; whnf)); rotate_left; apply r_op; exact rfl; exact want_t rfl rfl rfl (by assumption); apply g_fieldAddr; exact a_fieldAddr1 rfl (by decide) rfl; apply r_op; exact rfl; exact want_t rfl rfl rfl (by assumption); apply g_load; exact a_load1 rfl rfl; apply r_op; exact rfl
  exact want_t rfl rfl rfl (by assumption); apply g_call; exact a_len_slc rfl; apply r_op; exact rfl; exact want_t rfl rfl rfl (by assumption); apply g_fieldAddr; exact a_fieldAddr1 rfl (by decide) rfl; apply r_op; exact rfl; exact want_t rfl rfl rfl (by assumption); apply g_load; exact a_load1 rfl rfl; apply r_op; exact rfl; exact want_t rfl rfl rfl (by assumption); apply g_call
  exact a_len_slc rfl; apply r_op; exact rfl; exact want_t rfl rfl rfl (by assumption); apply g_binOp; exact a_binI rfl rfl rfl; apply r_op; exact rfl; exact rfl; apply g_pick; apply a_pickF rfl (by assumption); (conv => (lhs; whnf)); (with_reducible refine runs_done ?_); refine W.cond rfl (fun hc => ?_) (fun hc => ?_); refine W.seq ?_; refine W.regionL (by decide +kernel) rfl ?_; apply r_op
  exact rfl; exact rfl; apply a_assign; (conv => (lhs; whnf)); (with_reducible refine runs_done ?_); refine W.ret ?_; show Q Exit.ret _ _; refine post_q hQ (by apply res_tmp; exact rfl; exact res_nil) (.inl rfl) (by exact .refl _) ?_; (conv => (lhs; whnf)); rotate_left; refine W.skip ?_; show W _ _ _ _ _ _ _; refine W.seq ?_; refine W.seq ?_; refine W.regionL (by decide +kernel) rfl ?_; apply r_op
  exact rfl; exact rfl; apply a_assign; (conv => (lhs; whnf)); (with_reducible refine runs_done ?_); refine W.block ?_; rotate_left
  · have : ¬ x = y := fun e => by subst e; simp at hg
    simp [this]
  · have : ¬ x = y := fun e => by subst e; simp at hg
    simp [this]
  · have : ¬ x = y := fun e => by subst e; simp at hg
    simp [this]
  · have : ¬ x = y := fun e => by subst e; simp at hg
    simp [this]
  · have : ¬ x = y := fun e => by subst e; simp at hg
    simp [this]
  · have : ¬ x = y := fun e => by subst e; simp at hg
    simp [this]
  · have : ¬ x = y := fun e => by subst e; simp at hg
    simp [this]
  · have : ¬ x = y := fun e => by subst e; simp at hg
    simp [this]
  · have : ¬ x = y := fun e => by subst e; simp at hc
    simp [this]
  · have e1 : x.id = y.id := by simpa using ‹(!decide (x.id = y.id)) = false›
    have e2 : x.name = y.name := by simpa using ‹(!decide (x.name = y.name)) = false›
    have e3 : x.topic = y.topic := by simpa using ‹(!decide (x.topic = y.topic)) = false›
    have e4 : x.want = y.want := by simpa using ‹(!decide (x.want = y.want)) = false›
    have e5 : x.lease = y.lease := by simpa using ‹(!decide (x.lease = y.lease)) = false›
    have e6 : x.most = y.most := by simpa using ‹(!decide (x.most = y.most)) = false›
    have e7 : x.floor = y.floor := by simpa using ‹(!decide (x.floor = y.floor)) = false›
    have e8 : x.note = y.note := by simpa using ‹(!decide (x.note = y.note)) = false›
    have hlen : x.acks.length = y.acks.length := by simp at hc; omega
    · refine W.loop (fun k E s => ∃ i : Nat, i ≤ x.acks.length ∧ k = x.acks.length - i ∧ s = σ ∧ x.acks.take i = y.acks.take i ∧ Has [(2, .vp (eSub x)), (3, .vp (eSub y)), (5, .int .i64 i)] E) x.acks.length ⟨0, Nat.zero_le _, rfl, rfl, by simp, by exact Has.by (by repeat (first | exact trivial | refine ⟨by first | trivial | exact Weak.refl _ | exact Weak.tok _ _ _ | exact Weak.of_eq (congrArg (AV.int _) (by omega)) | exact Weak.of_eq (congrArg AV.bool (by fail)) | exact Weak.nils _ _ (.inr rfl), ?_⟩))⟩ ?_
      rintro k E s ⟨i, hi, rfl, rfl, htk, hE⟩; refine W.has hE ?_; clear hE hc; refine W.seq ?_; refine W.seq ?_; refine W.regionL (by decide +kernel) rfl ?_; apply r_op; exact rfl; exact rfl; apply a_move; (conv => (lhs; whnf)); apply r_op; exact rfl; exact rfl; apply g_fieldAddr; exact a_fieldAddr1 rfl (by decide) rfl; apply r_op; exact rfl; exact rfl; apply g_load; exact a_load1 rfl rfl
      apply r_op; exact rfl; exact rfl; apply g_call; exact a_len_slc rfl; apply r_op; exact rfl; exact rfl; apply g_binOp; exact a_binI rfl rfl rfl; (with_reducible refine runs_done ?_); refine W.cond rfl (fun hc => ?_) (fun hc => ?_)
      · have hlt : i < x.acks.length := by simp at hc; omega
        have ga : x.acks[i]? = some x.acks[i] := by simp [hlt]
        have gb : y.acks[i]? = some (y.acks[i]'(by omega)) := List.getElem?_eq_getElem (by omega)
        have ht := take_succ_iff hlt (show i < y.acks.length by omega) htk
        generalize x.acks[i] = a at ga ht
        generalize y.acks[i]'(by omega) = b at gb ht
        refine W.skip ?_; show W _ _ _ _ _ _ _; refine W.seq ?_; refine W.block ?_; refine W.seq ?_; refine W.regionDK 1 [] Ty.mixed (by decide +kernel) (by decide +kernel) rfl ?_; apply r_op; exact rfl; exact rfl; apply g_fieldAddr; exact a_fieldAddr1 rfl (by decide) rfl; apply r_op; exact rfl; exact rfl; apply g_load; exact a_load1 rfl rfl; apply r_op; exact rfl; exact rfl; apply a_move
        (conv => (lhs; whnf)); apply r_op; exact rfl; exact rfl; apply g_indexAddr; exact a_indexAddr rfl rfl (by decide) (by omega) (by exact get_map ga); apply r_op; exact rfl; exact rfl; apply g_load; exact a_load1 rfl rfl; apply r_op; exact rfl; exact rfl; apply g_fieldAddr; exact a_fieldAddr1 rfl (by decide) rfl; apply r_op; exact rfl; exact rfl; apply g_load; exact a_load1 rfl rfl; apply r_op
        exact rfl; exact rfl; apply a_move; (conv => (lhs; whnf)); apply r_op; exact rfl; exact rfl; apply g_indexAddr; exact a_indexAddr rfl rfl (by decide) (by omega) (by exact get_map gb); apply r_op; exact rfl; exact rfl; apply g_load; exact a_load1 rfl rfl; apply r_op; exact rfl; exact rfl; apply g_binOp; exact a_binI rfl rfl rfl; (with_reducible refine runs_done ?_)
        refine W.cond rfl (fun hc => ?_) (fun hc => ?_); refine W.seq ?_; refine W.regionL (by decide +kernel) rfl ?_; apply r_op; exact rfl; exact rfl; apply a_assign; (conv => (lhs; whnf)); (with_reducible refine runs_done ?_); refine W.ret ?_; show Q Exit.ret _ _; refine post_q hQ (by apply res_tmp; exact rfl; exact res_nil) (.inl rfl) (by exact .refl _) ?_; (conv => (lhs; whnf)); rotate_left
        refine W.skip ?_; show W _ _ _ _ _ _ _; refine W.regionL (by decide +kernel) rfl ?_; apply r_op; exact rfl; exact rfl; apply a_move; (conv => (lhs; whnf)); apply r_op; exact rfl; exact rfl; apply g_binOp; exact a_add64 rfl rfl (by omega); apply r_op; exact rfl; exact rfl; apply a_assign; (conv => (lhs; whnf)); (with_reducible refine runs_done ?_); rotate_left
        · have : ¬ x = y := fun e => by subst e; rw [ga] at gb; cases gb; simp at hc
          simp [this]
        · have hxy : a = b := by simpa using hc
          exact ⟨x.acks.length - (i + 1), by omega, i + 1, by omega, rfl, rfl, ht.2 hxy, by exact Has.by (by repeat (first | exact trivial | refine ⟨by first | trivial | exact Weak.refl _ | exact Weak.tok _ _ _ | exact Weak.of_eq (congrArg (AV.int _) (by omega)) | exact Weak.of_eq (congrArg AV.bool (by fail)) | exact Weak.nils _ _ (.inr rfl), ?_⟩))⟩
      · have hge : i = x.acks.length := by simp at hc; omega
        have e9 : x.acks = y.acks := by rw [hge, List.take_length, hlen, List.take_length] at htk; exact htk
        have : x = y ↔ x.queue = y.queue := ⟨fun h => by rw [h], fun h => sub_ext e1 e2 e3 e4 e5 e6 e7 e9 h e8⟩
        refine W.exit ?_; show W _ _ _ _ _ _ _; refine W.seq ?_; refine W.regionL (by decide +kernel) rfl ?_; apply r_op; exact rfl; exact rfl; apply g_fieldAddr; exact a_fieldAddr1 rfl (by decide) rfl; apply r_op; exact rfl; exact rfl; apply g_load; exact a_load1 rfl rfl; apply r_op; exact rfl; exact rfl; apply g_fieldAddr; exact a_fieldAddr1 rfl (by decide) rfl; apply r_op; exact rfl; exact rfl
        apply g_load; exact a_load1 rfl rfl; apply r_callP; exact rfl; exact rfl; exact rfl; exact rfl; exact rfl; infer_instance; exact sameMsgs_any w0 _ _ _ _ hq; apply r_op; exact rfl; exact rfl; apply a_assign; (conv => (lhs; whnf)); (with_reducible refine runs_done ?_); refine W.ret ?_; show Q Exit.ret _ _
        refine post_q hQ (by apply res_tmp; exact rfl; exact res_nil) (.inl rfl) (by exact .refl _) ?_; (conv => (lhs; whnf))
        simp [this]
end Go.Proofs.YtgliemhhnkhboaaGreatDoor
end
section
set_option linter.unusedVariables false
set_option linter.unusedSimpArgs false
set_option maxRecDepth 100000
set_option maxHeartbeats 2000000
namespace Go.Proofs.YtgliemhhnkhboaaGreatDoor
open Go.Al Go.RowKit
theorem equalI_any (w0 : Base) (a b : List Int) (ta tb : Tok) (ha : a.length ≤ 17592186043904) : CallP Tryz.prog w0 57 [.slc 1 (a.map (.int .i64)) ta, .slc 1 (b.map (.int .i64)) tb] (.bool (decide (a = b))) := by
  refine CallP.h Ty.tok Ty.mixed Tryz.func57 rfl Tryz.ntmps57 rfl (by simp) (by decide +kernel) fun σ => ?_
  (conv => whnf); refine Hid.seq ?_; refine Hid.reg ?_; (conv => whnf); refine Hid.seq ?_; refine Hid.seq ?_; refine Hid.reg ?_; (conv => whnf); refine Hid.cond rfl ?_
  skip
  refine SIf.x Ty.mixed (fun hc => ?_) (fun hc => ?_); refine Xc_h ?_; (conv => whnf); refine Hid.seq ?_; refine Hid.reg ?_; (conv => whnf); refine Hid.ret ?_; (conv => whnf); rotate_left; refine Xc_h ?_; (conv => whnf); refine Hid.skip ?_; (conv => whnf); refine Hid.seq ?_; refine Hid.seq ?_; refine Hid.reg ?_; (conv => whnf); refine Hid.block ?_; refine Hid.loop ?_
  rotate_right
  · skip
    have : ¬ a = b := by rintro rfl; simp at hc
    exact .p (.refl _) (by simp [this])
  have hlen : a.length = b.length := by simp at hc; omega
  clear hc
  skip
  refine SLoop.by Ty.mixed (fun i : Nat => a.length - i) (fun i => [(0, .slc 1 (a.map (.int .i64)) ta), (1, .slc 1 (b.map (.int .i64)) tb), (12, .int .i64 a.length), (13, .int .i64 i)]) (fun _ => []) (fun i τ => i ≤ a.length ∧ a.take i = b.take i ∧ τ = σ) 0 ⟨?_, .none _, Nat.zero_le _, by simp, rfl⟩ ?_
  · show xWeak [(0, .slc 1 (a.map (.int .i64)) ta), (1, .slc 1 (b.map (.int .i64)) tb), (12, .int .i64 a.length), (13, .int .i64 (0 : Nat))] _
    rw [show a.length = (a.map (AV.int .i64)).length by simp]
    repeat (first | exact trivial | refine ⟨by first | trivial | exact Weak.refl _ | exact Weak.tok _ _ _ | exact Weak.of_eq (congrArg (AV.int _) (by omega)) | exact Weak.of_eq (congrArg AV.bool (by fail)) | exact Weak.nils _ _ (.inr rfl), ?_⟩)
  rintro i τ ⟨hi, htk, rfl⟩; refine Xc_h ?_; (conv => whnf); refine Hid.seq ?_; refine Hid.reg ?_; (conv => whnf); refine Hid.seq ?_; refine Hid.cond rfl ?_
  skip
  refine SIf.x Ty.mixed (fun hc => ?_) (fun hc => ?_); refine Xc_h ?_; (conv => whnf); refine Hid.skip ?_; (conv => whnf); refine Hid.seq ?_; refine Hid.seq ?_; refine Hid.reg ?_; (conv => whnf); refine Hid.seq ?_; refine Hid.regD ?_; rotate_left; refine Xc_h ?_; (conv => whnf); refine Hid.exit ?_; (conv => whnf); refine Hid.seq ?_; refine Hid.reg ?_; (conv => whnf); refine Hid.ret ?_
  (conv => whnf)
  rotate_right
  · have hlt : i < a.length := by simp at hc; omega
    have ga : (a.map (AV.int .i64))[i]? = some (.int .i64 a[i]) := by simp [hlt]
    have gb : (b.map (AV.int .i64))[i]? = some (.int .i64 (b[i]'(by omega))) := by simp [List.getElem?_eq_getElem (show i < b.length by omega)]
    have ht := take_succ_iff hlt (show i < b.length by omega) htk
    have hab : a = b → a[i] = b[i]'(by omega) := fun e => by subst e; rfl
    generalize a[i] = x at *
    generalize b[i]'(by omega) = y at *
    refine SReg.t 0 [] (by decide +kernel) ?_; (conv => whnf)
    refine ⟨_, ⟨by first | omega | (simp only [List.length_map]; omega) | fail, by first | exact ga | exact gb | fail⟩, ?_⟩
    (conv => whnf)
    refine ⟨_, ⟨by first | omega | (simp only [List.length_map]; omega) | fail, by first | exact ga | exact gb | fail⟩, ?_⟩
    (conv => whnf); refine Hid.cond rfl ?_; refine SIf.x Ty.mixed (fun hc => ?_) (fun hc => ?_); refine Xc_h ?_; (conv => whnf); refine Hid.seq ?_; refine Hid.reg ?_; (conv => whnf); refine Hid.ret ?_; (conv => whnf); rotate_left; refine Xc_h ?_; (conv => whnf); refine Hid.skip ?_; (conv => whnf); refine Hid.reg ?_; (conv => whnf)
    rotate_right
    · skip
      have : ¬ a = b := fun e => by have := hab e; simp [this] at hc
      exact .p (.refl _) (by simp [this])
    · refine ⟨_, IntWalk.i64_in _ (by omega), ?_⟩
      (conv => whnf)
      have hxy : x = y := by simpa using hc
      exact ⟨i + 1, by omega, by repeat (first | exact trivial | refine ⟨by first | trivial | exact Weak.refl _ | exact Weak.tok _ _ _ | exact Weak.of_eq (congrArg (AV.int _) (by omega)) | exact Weak.of_eq (congrArg AV.bool (by fail)) | exact Weak.nils _ _ (.inr rfl), ?_⟩), .none _, hlt, ht.2 hxy, rfl⟩
  · have hge : i = a.length := by simp at hc; omega
    skip
    have : a = b := by rw [hge, List.take_length, hlen, List.take_length] at htk; exact htk
    exact .p (.refl _) (by simp [this])
theorem equalM_any (w0 : Base) (a b : List Msg) (ta tb : Tok) (ha : a.length ≤ 1599289640354) : CallP Tryz.prog w0 58 [.slc 8 (a.map eMsg) ta, .slc 8 (b.map eMsg) tb] (.bool (decide (a = b))) := by
  refine CallP.h Ty.tok Ty.mixed Tryz.func58 rfl Tryz.ntmps58 rfl (by simp) (by decide +kernel) fun σ => ?_
  (conv => whnf); refine Hid.seq ?_; refine Hid.reg ?_; (conv => whnf); refine Hid.seq ?_; refine Hid.seq ?_; refine Hid.reg ?_; (conv => whnf); refine Hid.cond rfl ?_
  skip
  refine SIf.x Ty.mixed (fun hc => ?_) (fun hc => ?_); refine Xc_h ?_; (conv => whnf); refine Hid.seq ?_; refine Hid.reg ?_; (conv => whnf); refine Hid.ret ?_; (conv => whnf); rotate_left; refine Xc_h ?_; (conv => whnf); refine Hid.skip ?_; (conv => whnf); refine Hid.seq ?_; refine Hid.seq ?_; refine Hid.reg ?_; (conv => whnf); refine Hid.block ?_; refine Hid.loop ?_
  rotate_right
  · skip
    have : ¬ a = b := by rintro rfl; simp at hc
    exact .p (.refl _) (by simp [this])
  have hlen : a.length = b.length := by simp at hc; omega
  clear hc
  skip
  refine SLoop.by Ty.mixed (fun i : Nat => a.length - i) (fun i => [(0, .slc 8 (a.map eMsg) ta), (1, .slc 8 (b.map eMsg) tb), (12, .int .i64 a.length), (13, .int .i64 i)]) (fun _ => []) (fun i τ => i ≤ a.length ∧ a.take i = b.take i ∧ τ = σ) 0 ⟨?_, .none _, Nat.zero_le _, by simp, rfl⟩ ?_
  · show xWeak [(0, .slc 8 (a.map eMsg) ta), (1, .slc 8 (b.map eMsg) tb), (12, .int .i64 a.length), (13, .int .i64 (0 : Nat))] _
    rw [show a.length = (a.map eMsg).length by simp]
    repeat (first | exact trivial | refine ⟨by first | trivial | exact Weak.refl _ | exact Weak.tok _ _ _ | exact Weak.of_eq (congrArg (AV.int _) (by omega)) | exact Weak.of_eq (congrArg AV.bool (by fail)) | exact Weak.nils _ _ (.inr rfl), ?_⟩)
  rintro i τ ⟨hi, htk, rfl⟩; refine Xc_h ?_; (conv => whnf); refine Hid.seq ?_; refine Hid.reg ?_; (conv => whnf); refine Hid.seq ?_; refine Hid.cond rfl ?_
  skip
  refine SIf.x Ty.mixed (fun hc => ?_) (fun hc => ?_); refine Xc_h ?_; (conv => whnf); refine Hid.skip ?_; (conv => whnf); refine Hid.seq ?_; refine Hid.seq ?_; refine Hid.reg ?_; (conv => whnf); refine Hid.seq ?_; refine Hid.regD ?_; rotate_left; refine Xc_h ?_; (conv => whnf); refine Hid.exit ?_; (conv => whnf); refine Hid.seq ?_; refine Hid.reg ?_; (conv => whnf); refine Hid.ret ?_
  (conv => whnf)
  rotate_right
  · have hlt : i < a.length := by simp at hc; omega
    have ga : (a.map eMsg)[i]? = some (eMsg a[i]) := by simp [hlt]
    have gb : (b.map eMsg)[i]? = some (eMsg (b[i]'(by omega))) := by simp [List.getElem?_eq_getElem (show i < b.length by omega)]
    have ht := take_succ_iff hlt (show i < b.length by omega) htk
    have hab : a = b → a[i] = b[i]'(by omega) := fun e => by subst e; rfl
    generalize a[i] = x at *
    generalize b[i]'(by omega) = y at *
    refine SReg.t 0 [] (by decide +kernel) ?_; (conv => whnf)
    refine ⟨_, ⟨by first | omega | (simp only [List.length_map]; omega) | fail, by first | exact ga | exact gb | fail⟩, ?_⟩
    (conv => whnf)
    refine ⟨_, ⟨by first | omega | (simp only [List.length_map]; omega) | fail, by first | exact ga | exact gb | fail⟩, ?_⟩
    (conv => whnf); refine SEqA.on (fun fs hfs => flat_msg x hfs) (eq_msg x y) rfl ?_; (conv => whnf); refine Hid.cond rfl ?_; refine SIf.x Ty.mixed (fun hc => ?_) (fun hc => ?_); refine Xc_h ?_; (conv => whnf); refine Hid.seq ?_; refine Hid.reg ?_; (conv => whnf); refine Hid.ret ?_; (conv => whnf); rotate_left; refine Xc_h ?_; (conv => whnf); refine Hid.skip ?_; (conv => whnf); refine Hid.reg ?_
    (conv => whnf)
    rotate_right
    · skip
      have : ¬ a = b := fun e => by have := hab e; simp [this] at hc
      exact .p (.refl _) (by simp [this])
    · refine ⟨_, IntWalk.i64_in _ (by omega), ?_⟩
      (conv => whnf)
      have hxy : x = y := by simpa using hc
      exact ⟨i + 1, by omega, by repeat (first | exact trivial | refine ⟨by first | trivial | exact Weak.refl _ | exact Weak.tok _ _ _ | exact Weak.of_eq (congrArg (AV.int _) (by omega)) | exact Weak.of_eq (congrArg AV.bool (by fail)) | exact Weak.nils _ _ (.inr rfl), ?_⟩), .none _, hlt, ht.2 hxy, rfl⟩
  · have hge : i = a.length := by simp at hc; omega
    skip
    have : a = b := by rw [hge, List.take_length, hlen, List.take_length] at htk; exact htk
    exact .p (.refl _) (by simp [this])
theorem same_any (w0 : Base) (x y : Sub) (ha : x.acks.length ≤ 17592186043904) (hq : x.queue.length ≤ 1599289640354) : CallP Tryz.prog w0 39 [eSub x, eSub y] (.bool (decide (x = y))) := by
  refine CallP.h Ty.tok Ty.mixed Tryz.func39 rfl Tryz.ntmps39 rfl (by simp) (by decide +kernel) fun σ => ?_
  (conv => whnf); refine Hid.seq ?_; refine Hid.reg ?_; (conv => whnf); refine SBox.f ?_; (conv => whnf); refine SBox.f ?_; (conv => whnf); refine Hid.seq ?_; refine Hid.seq ?_; refine Hid.reg ?_; (conv => whnf); refine SCall.p (by exact equalI_any w0 _ _ _ _ ha) ?_; (conv => whnf); refine SCond.mk (fun hc => ?_) (fun hc => ?_); (conv => whnf); rotate_left; (conv => whnf)
  rotate_right
  refine SCond.y (by assumption) ?_; (conv => whnf); refine SCond.y (by assumption) ?_; (conv => whnf); refine SCond.y (by assumption) ?_; (conv => whnf); refine SCond.y (by assumption) ?_; (conv => whnf); refine SCond.y (by assumption) ?_; (conv => whnf); refine SPick.y (by assumption) ?_; (conv => whnf); refine Hid.cond rfl ?_; refine SIf.y Ty.mixed (by exact rfl) ?_; refine Xc_h ?_
  (conv => whnf); refine Hid.seq ?_; refine Hid.reg ?_; (conv => whnf); refine Hid.ret ?_; (conv => whnf); rotate_left; refine SCond.n (by assumption) ?_; (conv => whnf); refine SCond.n (by assumption) ?_; (conv => whnf); refine SCond.n (by assumption) ?_; (conv => whnf); refine SCond.n (by assumption) ?_; (conv => whnf); refine SCall.p (by exact equalM_any w0 _ _ _ _ hq) ?_; (conv => whnf)
  refine SCond.n (by assumption) ?_; (conv => whnf); refine SPick.n (by assumption) ?_; (conv => whnf); refine Hid.cond rfl ?_; refine SIf.x Ty.mixed (fun hc => ?_) (fun hc => ?_); refine Xc_h ?_; (conv => whnf); refine Hid.seq ?_; refine Hid.reg ?_; (conv => whnf); refine Hid.ret ?_; (conv => whnf); rotate_left; refine Xc_h ?_; (conv => whnf); refine Hid.skip ?_; (conv => whnf); refine Hid.seq ?_
  refine Hid.reg ?_; (conv => whnf)
  rotate_right
  rotate_left; refine SCond.mk (fun hc => ?_) (fun hc => ?_); (conv => whnf); rotate_left; (conv => whnf)
  rotate_right
  refine SCond.y (by assumption) ?_; (conv => whnf); refine SCond.y (by assumption) ?_; (conv => whnf); refine SCond.y (by assumption) ?_; (conv => whnf); refine SCond.y (by assumption) ?_; (conv => whnf); refine SPick.y (by assumption) ?_; (conv => whnf); refine SCond.mk (fun hc => ?_) (fun hc => ?_); (conv => whnf); rotate_left; (conv => whnf)
  rotate_right
  refine SCond.y (by assumption) ?_; (conv => whnf); refine SCond.y (by assumption) ?_; (conv => whnf); refine SCond.y (by assumption) ?_; (conv => whnf); refine SCond.y (by assumption) ?_; (conv => whnf); refine SPick.y (by assumption) ?_; (conv => whnf); refine SCond.mk (fun hc => ?_) (fun hc => ?_); (conv => whnf); rotate_left; (conv => whnf)
  rotate_right
  refine SCond.y (by assumption) ?_; (conv => whnf); refine SCond.y (by assumption) ?_; (conv => whnf); refine SCond.y (by assumption) ?_; (conv => whnf); refine SCond.y (by assumption) ?_; (conv => whnf); refine SPick.y (by assumption) ?_; (conv => whnf); refine SCond.mk (fun hc => ?_) (fun hc => ?_); (conv => whnf); rotate_left; (conv => whnf)
  rotate_right
  refine SCond.y (by assumption) ?_; (conv => whnf); refine SCond.y (by assumption) ?_; (conv => whnf); refine SCond.y (by assumption) ?_; (conv => whnf); refine SCond.y (by assumption) ?_; (conv => whnf); refine SPick.y (by assumption) ?_; (conv => whnf); refine SCond.mk (fun hc => ?_) (fun hc => ?_); (conv => whnf); rotate_left; (conv => whnf)
  rotate_right
  refine SCond.y (by assumption) ?_; (conv => whnf); refine SCond.y (by assumption) ?_; (conv => whnf); refine SCond.y (by assumption) ?_; (conv => whnf); refine SCond.y (by assumption) ?_; (conv => whnf); refine SPick.y (by assumption) ?_; (conv => whnf); refine SCond.mk (fun hc => ?_) (fun hc => ?_); (conv => whnf); rotate_left; (conv => whnf)
  rotate_right
  refine SCond.y (by assumption) ?_; (conv => whnf); refine SCond.y (by assumption) ?_; (conv => whnf); refine SCond.y (by assumption) ?_; (conv => whnf); refine SCond.y (by assumption) ?_; (conv => whnf); refine SPick.y (by assumption) ?_; (conv => whnf); refine SCond.mk (fun hc => ?_) (fun hc => ?_); (conv => whnf); rotate_left; (conv => whnf)
  rotate_right
  refine SCond.y (by assumption) ?_; (conv => whnf); refine SCond.y (by assumption) ?_; (conv => whnf); refine SCond.y (by assumption) ?_; (conv => whnf); refine SCond.y (by assumption) ?_; (conv => whnf); refine SPick.y (by assumption) ?_; (conv => whnf); refine Hid.ret ?_; (conv => whnf); rotate_left; refine SCond.n (by assumption) ?_; (conv => whnf); refine SCond.n (by assumption) ?_
  (conv => whnf); refine SCond.n (by assumption) ?_; (conv => whnf); refine SCond.n (by assumption) ?_; (conv => whnf); refine SPick.n (by assumption) ?_; (conv => whnf); refine Hid.ret ?_; (conv => whnf); rotate_left; refine SCond.n (by assumption) ?_; (conv => whnf); refine SCond.n (by assumption) ?_; (conv => whnf); refine SCond.n (by assumption) ?_; (conv => whnf)
  refine SCond.n (by assumption) ?_; (conv => whnf); refine SPick.n (by assumption) ?_; (conv => whnf); refine SCond.n (by exact rfl) ?_; (conv => whnf); refine SCond.n (by exact rfl) ?_; (conv => whnf); refine SCond.n (by exact rfl) ?_; (conv => whnf); refine SCond.n (by exact rfl) ?_; (conv => whnf); refine SCond.n (by exact rfl) ?_; (conv => whnf); refine SPick.n (by exact rfl) ?_
  (conv => whnf); refine Hid.ret ?_; (conv => whnf); rotate_left; refine SCond.n (by assumption) ?_; (conv => whnf); refine SCond.n (by assumption) ?_; (conv => whnf); refine SCond.n (by assumption) ?_; (conv => whnf); refine SCond.n (by assumption) ?_; (conv => whnf); refine SPick.n (by assumption) ?_; (conv => whnf); refine SCond.n (by exact rfl) ?_; (conv => whnf)
  refine SCond.n (by exact rfl) ?_; (conv => whnf); refine SCond.n (by exact rfl) ?_; (conv => whnf); refine SCond.n (by exact rfl) ?_; (conv => whnf); refine SCond.n (by exact rfl) ?_; (conv => whnf); refine SPick.n (by exact rfl) ?_; (conv => whnf); refine SCond.n (by exact rfl) ?_; (conv => whnf); refine SCond.n (by exact rfl) ?_; (conv => whnf); refine SCond.n (by exact rfl) ?_; (conv => whnf)
  refine SCond.n (by exact rfl) ?_; (conv => whnf); refine SCond.n (by exact rfl) ?_; (conv => whnf); refine SPick.n (by exact rfl) ?_; (conv => whnf); refine Hid.ret ?_; (conv => whnf); rotate_left; refine SCond.n (by assumption) ?_; (conv => whnf); refine SCond.n (by assumption) ?_; (conv => whnf); refine SCond.n (by assumption) ?_; (conv => whnf); refine SCond.n (by assumption) ?_
  (conv => whnf); refine SPick.n (by assumption) ?_; (conv => whnf); refine SCond.n (by exact rfl) ?_; (conv => whnf); refine SCond.n (by exact rfl) ?_; (conv => whnf); refine SCond.n (by exact rfl) ?_; (conv => whnf); refine SCond.n (by exact rfl) ?_; (conv => whnf); refine SCond.n (by exact rfl) ?_; (conv => whnf); refine SPick.n (by exact rfl) ?_; (conv => whnf); refine SCond.n (by exact rfl) ?_
  (conv => whnf); refine SCond.n (by exact rfl) ?_; (conv => whnf); refine SCond.n (by exact rfl) ?_; (conv => whnf); refine SCond.n (by exact rfl) ?_; (conv => whnf); refine SCond.n (by exact rfl) ?_; (conv => whnf); refine SPick.n (by exact rfl) ?_; (conv => whnf); refine SCond.n (by exact rfl) ?_; (conv => whnf); refine SCond.n (by exact rfl) ?_; (conv => whnf); refine SCond.n (by exact rfl) ?_
  (conv => whnf); refine SCond.n (by exact rfl) ?_; (conv => whnf); refine SCond.n (by exact rfl) ?_; (conv => whnf); refine SPick.n (by exact rfl) ?_; (conv => whnf); refine Hid.ret ?_; (conv => whnf); rotate_left; refine SCond.n (by assumption) ?_; (conv => whnf); refine SCond.n (by assumption) ?_; (conv => whnf); refine SCond.n (by assumption) ?_; (conv => whnf)
  refine SCond.n (by assumption) ?_; (conv => whnf); refine SPick.n (by assumption) ?_; (conv => whnf); refine SCond.n (by exact rfl) ?_; (conv => whnf); refine SCond.n (by exact rfl) ?_; (conv => whnf); refine SCond.n (by exact rfl) ?_; (conv => whnf); refine SCond.n (by exact rfl) ?_; (conv => whnf); refine SCond.n (by exact rfl) ?_; (conv => whnf); refine SPick.n (by exact rfl) ?_
  (conv => whnf); refine SCond.n (by exact rfl) ?_; (conv => whnf); refine SCond.n (by exact rfl) ?_; (conv => whnf); refine SCond.n (by exact rfl) ?_; (conv => whnf); refine SCond.n (by exact rfl) ?_; (conv => whnf); refine SCond.n (by exact rfl) ?_; (conv => whnf); refine SPick.n (by exact rfl) ?_; (conv => whnf); refine SCond.n (by exact rfl) ?_; (conv => whnf); refine SCond.n (by exact rfl) ?_
  (conv => whnf); refine SCond.n (by exact rfl) ?_; (conv => whnf); refine SCond.n (by exact rfl) ?_; (conv => whnf); refine SCond.n (by exact rfl) ?_; (conv => whnf); refine SPick.n (by exact rfl) ?_; (conv => whnf); refine SCond.n (by exact rfl) ?_; (conv => whnf); refine SCond.n (by exact rfl) ?_; (conv => whnf); refine SCond.n (by exact rfl) ?_; (conv => whnf); refine SCond.n (by exact rfl) ?_
  (conv => whnf); refine SCond.n (by exact rfl) ?_; (conv => whnf); refine SPick.n (by exact rfl) ?_; (conv => whnf); refine Hid.ret ?_; (conv => whnf); rotate_left; refine SCond.n (by assumption) ?_; (conv => whnf); refine SCond.n (by assumption) ?_; (conv => whnf); refine SCond.n (by assumption) ?_; (conv => whnf); refine SCond.n (by assumption) ?_; (conv => whnf)
  refine SPick.n (by assumption) ?_; (conv => whnf); refine SCond.n (by exact rfl) ?_; (conv => whnf); refine SCond.n (by exact rfl) ?_; (conv => whnf); refine SCond.n (by exact rfl) ?_; (conv => whnf); refine SCond.n (by exact rfl) ?_; (conv => whnf); refine SCond.n (by exact rfl) ?_; (conv => whnf); refine SPick.n (by exact rfl) ?_; (conv => whnf); refine SCond.n (by exact rfl) ?_; (conv => whnf)
  refine SCond.n (by exact rfl) ?_; (conv => whnf); refine SCond.n (by exact rfl) ?_; (conv => whnf); refine SCond.n (by exact rfl) ?_; (conv => whnf); refine SCond.n (by exact rfl) ?_; (conv => whnf); refine SPick.n (by exact rfl) ?_; (conv => whnf); refine SCond.n (by exact rfl) ?_; (conv => whnf); refine SCond.n (by exact rfl) ?_; (conv => whnf); refine SCond.n (by exact rfl) ?_; (conv => whnf)
  refine SCond.n (by exact rfl) ?_; (conv => whnf); refine SCond.n (by exact rfl) ?_; (conv => whnf); refine SPick.n (by exact rfl) ?_; (conv => whnf); refine SCond.n (by exact rfl) ?_; (conv => whnf); refine SCond.n (by exact rfl) ?_; (conv => whnf); refine SCond.n (by exact rfl) ?_; (conv => whnf); refine SCond.n (by exact rfl) ?_; (conv => whnf); refine SCond.n (by exact rfl) ?_; (conv => whnf)
  refine SPick.n (by exact rfl) ?_; (conv => whnf); refine SCond.n (by exact rfl) ?_; (conv => whnf); refine SCond.n (by exact rfl) ?_; (conv => whnf); refine SCond.n (by exact rfl) ?_; (conv => whnf); refine SCond.n (by exact rfl) ?_; (conv => whnf); refine SCond.n (by exact rfl) ?_; (conv => whnf); refine SPick.n (by exact rfl) ?_; (conv => whnf); refine Hid.ret ?_; (conv => whnf); rotate_left
  refine SCond.n (by assumption) ?_; (conv => whnf); refine SCond.n (by assumption) ?_; (conv => whnf); refine SCond.n (by assumption) ?_; (conv => whnf); refine SCond.n (by assumption) ?_; (conv => whnf); refine SPick.n (by assumption) ?_; (conv => whnf); refine SCond.n (by exact rfl) ?_; (conv => whnf); refine SCond.n (by exact rfl) ?_; (conv => whnf); refine SCond.n (by exact rfl) ?_
  (conv => whnf); refine SCond.n (by exact rfl) ?_; (conv => whnf); refine SCond.n (by exact rfl) ?_; (conv => whnf); refine SPick.n (by exact rfl) ?_; (conv => whnf); refine SCond.n (by exact rfl) ?_; (conv => whnf); refine SCond.n (by exact rfl) ?_; (conv => whnf); refine SCond.n (by exact rfl) ?_; (conv => whnf); refine SCond.n (by exact rfl) ?_; (conv => whnf); refine SCond.n (by exact rfl) ?_
  (conv => whnf); refine SPick.n (by exact rfl) ?_; (conv => whnf); refine SCond.n (by exact rfl) ?_; (conv => whnf); refine SCond.n (by exact rfl) ?_; (conv => whnf); refine SCond.n (by exact rfl) ?_; (conv => whnf); refine SCond.n (by exact rfl) ?_; (conv => whnf); refine SCond.n (by exact rfl) ?_; (conv => whnf); refine SPick.n (by exact rfl) ?_; (conv => whnf); refine SCond.n (by exact rfl) ?_
  (conv => whnf); refine SCond.n (by exact rfl) ?_; (conv => whnf); refine SCond.n (by exact rfl) ?_; (conv => whnf); refine SCond.n (by exact rfl) ?_; (conv => whnf); refine SCond.n (by exact rfl) ?_; (conv => whnf); refine SPick.n (by exact rfl) ?_; (conv => whnf); refine SCond.n (by exact rfl) ?_; (conv => whnf); refine SCond.n (by exact rfl) ?_; (conv => whnf); refine SCond.n (by exact rfl) ?_
  (conv => whnf); refine SCond.n (by exact rfl) ?_; (conv => whnf); refine SCond.n (by exact rfl) ?_; (conv => whnf); refine SPick.n (by exact rfl) ?_; (conv => whnf); refine SCond.n (by exact rfl) ?_; (conv => whnf); refine SCond.n (by exact rfl) ?_; (conv => whnf); refine SCond.n (by exact rfl) ?_; (conv => whnf); refine SCond.n (by exact rfl) ?_; (conv => whnf); refine SCond.n (by exact rfl) ?_
  (conv => whnf); refine SPick.n (by exact rfl) ?_; (conv => whnf); refine Hid.ret ?_; (conv => whnf); rotate_left
  all_goals
    refine .p (.refl _) (congrArg AV.bool ?_); clear ha hq
    rw [Bool.eq_iff_iff]
    have he : x = y ↔ (x.id = y.id ∧ x.name = y.name ∧ x.topic = y.topic ∧ x.want = y.want ∧ x.lease = y.lease ∧ x.most = y.most ∧ x.floor = y.floor ∧ x.acks = y.acks ∧ x.queue = y.queue ∧ x.note = y.note) := ⟨fun e => by subst e; simp, fun ⟨h1, h2, h3, h4, h5, h6, h7, h8, h9, h10⟩ => sub_ext h1 h2 h3 h4 h5 h6 h7 h8 h9 h10⟩
    simp only [decide_eq_true_eq, he]
    simp_all
end Go.Proofs.YtgliemhhnkhboaaGreatDoor
end
section
set_option linter.unusedVariables false
set_option linter.unusedSimpArgs false
set_option maxRecDepth 100000
set_option maxHeartbeats 2000000
namespace Go.Proofs.YtgliemhhnkhboaaGreatDoor
open Go.Al Go.RowKit
theorem equalS_any (w0 : Base) (a b : List Sub) (ta tb : Tok) (hf : Fine a) : CallP Tryz.prog w0 38 [.slc 10 (a.map eSub) ta, .slc 10 (b.map eSub) tb, .fn (.func 39) [] []] (.bool (decide (a = b))) := by
  have ha := hf.n
  refine CallP.h Ty.tok Ty.mixed Tryz.func38 rfl Tryz.ntmps38 rfl (by simp) (by decide +kernel) fun σ => ?_
  (conv => whnf); refine Hid.seq ?_; refine Hid.reg ?_; (conv => whnf); refine Hid.seq ?_; refine Hid.seq ?_; refine Hid.reg ?_; (conv => whnf); refine Hid.cond rfl ?_
  skip
  refine SIf.x Ty.mixed (fun hc => ?_) (fun hc => ?_); refine Xc_h ?_; (conv => whnf); refine Hid.seq ?_; refine Hid.reg ?_; (conv => whnf); refine Hid.ret ?_; (conv => whnf); rotate_left; refine Xc_h ?_; (conv => whnf); refine Hid.skip ?_; (conv => whnf); refine Hid.seq ?_; refine Hid.seq ?_; refine Hid.reg ?_; (conv => whnf); refine Hid.block ?_; refine Hid.loop ?_
  rotate_right
  · skip
    have : ¬ a = b := by rintro rfl; simp at hc
    exact .p (.refl _) (by simp [this])
  have hlen : a.length = b.length := by simp at hc; omega
  clear hc
  skip
  refine SLoop.by Ty.mixed (fun i : Nat => a.length - i) (fun i => [(1, .slc 10 (b.map eSub) tb), (2, .fn (.func 39) [] []), (15, .slc 10 (a.map eSub) ta), (16, .int .i64 a.length), (17, .int .i64 i)]) (fun _ => []) (fun i τ => i ≤ a.length ∧ a.take i = b.take i ∧ St.Le σ τ) 0 ⟨?_, .none _, Nat.zero_le _, by simp, .refl _⟩ ?_
  · show xWeak [(1, .slc 10 (b.map eSub) tb), (2, .fn (.func 39) [] []), (15, .slc 10 (a.map eSub) ta), (16, .int .i64 a.length), (17, .int .i64 (0 : Nat))] _
    rw [show a.length = (a.map eSub).length by simp]
    repeat (first | exact trivial | refine ⟨by first | trivial | exact Weak.refl _ | exact Weak.tok _ _ _ | exact Weak.of_eq (congrArg (AV.int _) (by omega)) | exact Weak.of_eq (congrArg AV.bool (by fail)) | exact Weak.nils _ _ (.inr rfl), ?_⟩)
  rintro i τ ⟨hi, htk, hle⟩; refine Xc_h ?_; (conv => whnf); refine Hid.seq ?_; refine Hid.reg ?_; (conv => whnf); refine Hid.seq ?_; refine Hid.cond rfl ?_
  skip
  refine SIf.x Ty.mixed (fun hc => ?_) (fun hc => ?_); refine Xc_h ?_; (conv => whnf); refine Hid.skip ?_; (conv => whnf); refine Hid.seq ?_; refine Hid.seq ?_; refine Hid.reg ?_; (conv => whnf); rotate_left; refine Xc_h ?_; (conv => whnf); refine Hid.exit ?_; (conv => whnf); refine Hid.seq ?_; refine Hid.reg ?_; (conv => whnf); refine Hid.ret ?_; (conv => whnf)
  rotate_right
  · have hlt : i < a.length := by simp at hc; omega
    have ga : (a.map eSub)[i]? = some (eSub a[i]) := by simp [hlt]
    have gb : (b.map eSub)[i]? = some (eSub (b[i]'(by omega))) := by simp [List.getElem?_eq_getElem (show i < b.length by omega)]
    have ht := take_succ_iff hlt (show i < b.length by omega) htk
    have hab : a = b → a[i] = b[i]'(by omega) := fun e => by subst e; rfl
    have hxa := hf.a _ (List.getElem_mem hlt)
    have hxq := hf.q _ (List.getElem_mem hlt)
    generalize a[i] = x at *
    generalize b[i]'(by omega) = y at *
    (conv => whnf)
    refine ⟨_, ⟨by first | omega | (simp only [List.length_map]; omega) | fail, by first | exact ga | exact gb | fail⟩, ?_⟩
    (conv => whnf); intro b8 hb8; (conv => whnf); refine SStore.on 0 rfl ?_; (conv => whnf); refine Hid.seq ?_; refine Hid.reg ?_; (conv => whnf)
    refine ⟨_, ⟨by first | omega | (simp only [List.length_map]; omega) | fail, by first | exact ga | exact gb | fail⟩, ?_⟩
    (conv => whnf); intro b9 hb9; (conv => whnf); refine SStore.on 0 rfl ?_; (conv => whnf); refine Hid.seq ?_; refine Hid.reg ?_; (conv => whnf); refine SLoad.on 1 rfl ?_; (conv => whnf); refine SLoad.on 0 rfl ?_; (conv => whnf); refine SCall.p (by exact same_any w0 x y hxa hxq) ?_; (conv => whnf); refine Hid.cond rfl ?_; refine SIf.x Ty.mixed (fun hc => ?_) (fun hc => ?_); refine Xc_h ?_
    (conv => whnf); refine Hid.seq ?_; refine Hid.reg ?_; (conv => whnf); refine Hid.ret ?_; (conv => whnf); rotate_left; refine Xc_h ?_; (conv => whnf); refine Hid.skip ?_; (conv => whnf); refine Hid.reg ?_; (conv => whnf)
    rotate_right
    · skip
      have : ¬ a = b := fun e => by have := hab e; simp [this] at hc
      exact .p (by repeat (first | assumption | exact .refl _ | refine le_new2 ?_ (by assumption) | refine le_new ?_ (by assumption) | refine le_setBox ?_ (by first | assumption | exact none_in (by assumption) | exact none_in (none_in (by assumption)) | exact none_in (none_in (none_in (by assumption))) | fail) | exact Moves.le (by assumption) | refine .trans ?_ (Moves.le (by assumption)))) (by simp [this])
    · refine ⟨_, IntWalk.i64_in _ (by omega), ?_⟩
      (conv => whnf)
      have hxy : x = y := by simpa using hc
      exact ⟨i + 1, by omega, by repeat (first | exact trivial | refine ⟨by first | trivial | exact Weak.refl _ | exact Weak.tok _ _ _ | exact Weak.of_eq (congrArg (AV.int _) (by omega)) | exact Weak.of_eq (congrArg AV.bool (by fail)) | exact Weak.nils _ _ (.inr rfl), ?_⟩), .none _, hlt, ht.2 hxy, by repeat (first | assumption | exact .refl _ | refine le_new2 ?_ (by assumption) | refine le_new ?_ (by assumption) | refine le_setBox ?_ (by first | assumption | exact none_in (by assumption) | exact none_in (none_in (by assumption)) | exact none_in (none_in (none_in (by assumption))) | fail) | exact Moves.le (by assumption) | refine .trans ?_ (Moves.le (by assumption)))⟩
  · have hge : i = a.length := by simp at hc; omega
    skip
    have : a = b := by rw [hge, List.take_length, hlen, List.take_length] at htk; exact htk
    exact .p hle (by simp [this])
theorem stateSame_any (w0 : Base) (s t : Stt) (hf : Fine s.subs) : CallP Tryz.prog w0 19 [eStt s, eStt t] (.bool (decide (s.clock = t.clock) && (decide (s.next = t.next) && (decide (s.last = t.last) && decide (s.subs = t.subs))))) := by
  refine CallP.h Ty.tok Ty.mixed Tryz.func19 rfl Tryz.ntmps19 rfl (by simp) (by decide +kernel) fun σ => ?_
  (conv => whnf); refine Hid.seq ?_; refine Hid.reg ?_; (conv => whnf); refine SBox.f ?_; (conv => whnf); refine SBox.f ?_; (conv => whnf); refine Hid.seq ?_; refine Hid.reg ?_; (conv => whnf); refine SCond.mk (fun hc => ?_) (fun hc => ?_); (conv => whnf); rotate_left; (conv => whnf)
  rotate_right
  refine SCond.y (by assumption) ?_; (conv => whnf); refine SCond.y (by assumption) ?_; (conv => whnf); refine SCond.y (by assumption) ?_; (conv => whnf); refine SCond.y (by assumption) ?_; (conv => whnf); refine SPick.y (by assumption) ?_; (conv => whnf); refine SCond.mk (fun hc => ?_) (fun hc => ?_); (conv => whnf); rotate_left; (conv => whnf)
  rotate_right
  refine SCond.y (by assumption) ?_; (conv => whnf); refine SCond.y (by assumption) ?_; (conv => whnf); refine SCond.y (by assumption) ?_; (conv => whnf); refine SCond.y (by assumption) ?_; (conv => whnf); refine SPick.y (by assumption) ?_; (conv => whnf); refine SCond.mk (fun hc => ?_) (fun hc => ?_); (conv => whnf); rotate_left; (conv => whnf)
  rotate_right
  refine SCond.y (by assumption) ?_; (conv => whnf); refine SCond.y (by assumption) ?_; (conv => whnf); refine SCond.y (by assumption) ?_; (conv => whnf); refine SCond.y (by assumption) ?_; (conv => whnf); refine SCall.p (by exact equalS_any w0 _ _ _ _ hf) ?_; (conv => whnf); refine SPick.y (by assumption) ?_; (conv => whnf); refine Hid.ret ?_; (conv => whnf); rotate_left
  refine SCond.n (by assumption) ?_; (conv => whnf); refine SCond.n (by assumption) ?_; (conv => whnf); refine SCond.n (by assumption) ?_; (conv => whnf); refine SCond.n (by assumption) ?_; (conv => whnf); refine SPick.n (by assumption) ?_; (conv => whnf); refine Hid.ret ?_; (conv => whnf); rotate_left; refine SCond.n (by assumption) ?_; (conv => whnf); refine SCond.n (by assumption) ?_
  (conv => whnf); refine SCond.n (by assumption) ?_; (conv => whnf); refine SCond.n (by assumption) ?_; (conv => whnf); refine SPick.n (by assumption) ?_; (conv => whnf); refine SCond.n (by exact rfl) ?_; (conv => whnf); refine SCond.n (by exact rfl) ?_; (conv => whnf); refine SCond.n (by exact rfl) ?_; (conv => whnf); refine SCond.n (by exact rfl) ?_; (conv => whnf)
  refine SCond.n (by exact rfl) ?_; (conv => whnf); refine SPick.n (by exact rfl) ?_; (conv => whnf); refine Hid.ret ?_; (conv => whnf); rotate_left; refine SCond.n (by assumption) ?_; (conv => whnf); refine SCond.n (by assumption) ?_; (conv => whnf); refine SCond.n (by assumption) ?_; (conv => whnf); refine SCond.n (by assumption) ?_; (conv => whnf); refine SPick.n (by assumption) ?_
  (conv => whnf); refine SCond.n (by exact rfl) ?_; (conv => whnf); refine SCond.n (by exact rfl) ?_; (conv => whnf); refine SCond.n (by exact rfl) ?_; (conv => whnf); refine SCond.n (by exact rfl) ?_; (conv => whnf); refine SCond.n (by exact rfl) ?_; (conv => whnf); refine SPick.n (by exact rfl) ?_; (conv => whnf); refine SCond.n (by exact rfl) ?_; (conv => whnf); refine SCond.n (by exact rfl) ?_
  (conv => whnf); refine SCond.n (by exact rfl) ?_; (conv => whnf); refine SCond.n (by exact rfl) ?_; (conv => whnf); refine SCond.n (by exact rfl) ?_; (conv => whnf); refine SPick.n (by exact rfl) ?_; (conv => whnf); refine Hid.ret ?_; (conv => whnf); rotate_left
  all_goals
    refine .p (.refl _) (congrArg AV.bool ?_); clear hf
    rw [Bool.eq_iff_iff]
    simp_all
end Go.Proofs.YtgliemhhnkhboaaGreatDoor
end
section
set_option linter.unusedVariables false
set_option linter.unusedSimpArgs false
set_option maxRecDepth 100000
namespace Go.Proofs.YtgliemhhnkhboaaGreatDoor
open Go.Al
theorem pcs_none {c : UInt8} : ∀ {l : List UInt8}, (∀ b ∈ l, b ≠ c) → pcs c l = [l]
  | [], _ => rfl
  | b :: l, h => by rw [pcs, if_neg (h b (by simp)), pcs_none fun d hd => h d (by simp [hd])]
theorem ix_none {c : UInt8} : ∀ {l : List UInt8}, (∀ b ∈ l, b ≠ c) → Lib.indexByte l c = -1
  | [], _ => rfl
  | b :: l, h => by
    have := h b (by simp)
    rw [Lib.indexByte, if_neg (by simpa using this), ix_none fun d hd => h d (by simp [hd])]; rfl
theorem low_word {l : List UInt8} (h : ∀ b ∈ l, 97 ≤ b.toNat ∧ b.toNat ≤ 122) (h0 : l ≠ []) : wordS l = true := by
  rw [wordS, Bool.and_eq_true, List.all_eq_true]
  exact ⟨fun b hb => by have := h b hb; simp [wordB, this], by simpa using h0⟩
theorem low_name {l : List UInt8} (h : ∀ b ∈ l, 97 ≤ b.toNat ∧ b.toNat ≤ 122) (h0 : l ≠ []) (hl : l.length ≤ 20) : nameT l = true := by
  have hn : ∀ b ∈ l, b ≠ 47 := fun b hb e => by have := h b hb; rw [e] at this; simp at this
  rw [nameT, rightT, pcs_none hn, ix_none hn]
  simp [low_word h h0, hl]; omega
theorem topic_pat {v : List UInt8} (h : TopicOk v) : patT v = true := by rcases h with rfl | rfl | rfl | rfl <;> decide
theorem want_attrs {v : List UInt8} (h : WantOk v) : attrsT v = true := by rcases h with rfl | rfl | rfl <;> decide
theorem attr_attrs {v : List UInt8} (h : v = [] ∨ v = [97, 61, 49] ∨ v = [98, 61, 50]) : attrsT v = true := by rcases h with rfl | rfl | rfl <;> decide
theorem letter_low (k i : Nat) : 97 ≤ (letter k i).toNat ∧ (letter k i).toNat ≤ 122 := by
  have h : (97 + (i + k) % 26) < 256 := by omega
  have e : (letter k i).toNat = 97 + (i + k) % 26 := by
    simp only [letter]
    rw [UInt8.toNat_ofNat']
    exact Nat.mod_eq_of_lt h
  rw [e]; omega
theorem Grown.nameOk {id clock next : Nat} {x : Sub} (h : Grown id clock next x) : nameT x.name = true := by
  obtain ⟨k, hk, e⟩ := h.name
  refine low_name (fun b hb => ?_) (by rw [e]; simp) h.nlen
  rw [e] at hb
  rcases List.mem_cons.1 hb with rfl | hb
  · decide
  · obtain ⟨i, _, rfl⟩ := List.mem_map.1 hb
    exact letter_low k i
theorem goodA_of {next : Int} : ∀ {l : List Int} {last : Int}, Rise last l → (∀ a ∈ l, a < next) → goodA next last l = true
  | [], _, _, _ => rfl
  | a :: l, last, h, hh => by
    have := hh a (by simp)
    have h1 := h.1
    rw [goodA, goodA_of h.2 fun b hb => hh b (by simp [hb]), Bool.and_true, btw]
    simp; omega
theorem goodQ_of {acks : List Int} {most lease clock next : Int} : ∀ {l : List Msg} {last : Int}, Rise last (l.map Msg.seq) → (∀ m ∈ l, m.seq < next) → (∀ m ∈ l, m.seq ∉ acks) → (∀ m ∈ l, msgT m most lease clock = true) → goodQ acks most lease clock next last l = true
  | [], _, _, _, _, _ => rfl
  | m :: l, last, h, hh, ha, hm => by
    have h2 := hh m (by simp)
    have h1 : last < m.seq := h.1
    rw [goodQ, goodQ_of h.2 (fun b hb => hh b (by simp [hb])) (fun b hb => ha b (by simp [hb])) (fun b hb => hm b (by simp [hb])), Bool.and_true, hm m (by simp), btw]
    simp [ha m (by simp)]; omega
theorem MsgOk.msgT {clock most lease : Int} {m : Msg} (hc : 0 ≤ clock) (h : MsgOk clock most lease m) : msgT m most lease clock = true := by
  have h1 := h.body
  have h2 := attr_attrs h.attr
  have h3 := h.prio
  rw [Go.Proofs.YtgliemhhnkhboaaGreatDoor.msgT, h2]
  simp only [btw, h1, h3.1, h3.2, decide_true, Bool.and_self, Bool.true_and]
  rcases h.st with ⟨e1, e2, e3, e4, e5⟩ | ⟨e1, e2, ⟨e3, e4⟩, e5, e6⟩ | ⟨e1, e2, e3, e4⟩
  · simp [e1, e2, e3, e4]; omega
  · rw [if_neg (by simp [e1]), if_neg (by simp [e2])]
    rw [if_neg (by omega)]; simp [e3, e4, e5, e6]
  · rcases e4 with e4 | e4 <;> simp [e1, e2, e3, e4]
theorem Grown.good {id clock next : Nat} {x : Sub} (h : Grown id clock next x) (h1 : 1 ≤ id) (h2 : id ≤ 1073741824) : goodT x clock next = true := by
  have e1 := h.nameOk
  have e2 := topic_pat h.topic
  have e3 := want_attrs h.want
  have e4 := h.note
  have e5 := h.id
  have e6 := h.most
  have e7 := h.lease
  have e8 := h.floor
  have e9 := h.nacks
  have e10 := h.nqueue
  rw [goodT, goodA_of h.rise h.high, goodQ_of h.qrise h.qhigh (fun m hm hk => h.apart _ hk m hm rfl) (fun m hm => (h.msgs m hm).msgT (by omega)), fieldsT, e1, e2, e3]
  simp only [btw, Bool.true_and, Bool.and_true, Bool.and_eq_true, decide_eq_true_eq]
  omega
theorem Rise.filter {l : List Int} (p : Int → Bool) : ∀ {lo : Int}, Rise lo l → Rise lo (l.filter p) := by
  induction l with
  | nil => exact fun h => h
  | cons a l ih =>
    intro lo h
    rw [List.filter_cons]
    split
    · exact ⟨h.1, ih h.2⟩
    · refine ih ?_
      have h1 := h.1
      have h2 := h.2
      cases l with
      | nil => trivial
      | cons b l => exact ⟨by have := h2.1; omega, h2.2⟩
theorem Rise.up : ∀ {l : List Int} {lo hi : Int}, Rise lo l → (∀ a ∈ l, hi < a) → Rise hi l
  | [], _, _, _, _ => trivial
  | a :: l, lo, hi, h, k => ⟨k a (by simp), h.2⟩
end Go.Proofs.YtgliemhhnkhboaaGreatDoor
end
section
set_option linter.unusedVariables false
set_option linter.unusedSimpArgs false
namespace Go.Proofs.YtgliemhhnkhboaaGreatDoor
open Go.Al
def refPut (x : Sub) : List Sub → Bool → List Sub
  | [], laid => if laid = true then [] else [x]
  | y :: l, laid => if laid = false ∧ x.id < y.id then x :: y :: refPut x l true else y :: refPut x l laid
theorem refPut_true (x : Sub) : ∀ l, refPut x l true = l
  | [] => rfl
  | y :: l => by rw [refPut, if_neg (by simp), refPut_true x l]
theorem refPut_false (x : Sub) : ∀ l, refPut x l false = upto l x.id ++ x :: beyond l x.id
  | [] => rfl
  | y :: l => by
    by_cases h : x.id < y.id
    · rw [refPut, if_pos ⟨rfl, h⟩, refPut_true]
      simp [upto, beyond, h]
    · rw [refPut, if_neg (by simp [h]), refPut_false x l]
      have h' : y.id ≤ x.id := by omega
      simp [upto, beyond, h]
theorem putS_ref (l : List Sub) (x : Sub) : putS l x = refPut x (wo l x.id) false := by rw [refPut_false]; rfl
structure GrownS (ck nx ls : Nat) (s : Stt) : Prop where
  clock : s.clock = ck
  ckle : ck ≤ 2000
  next : s.next = nx
  nxle : 1 ≤ nx ∧ nx ≤ 100
  last : s.last = ls
  lsle : ls ≤ 7
  asc : Asc s.subs
  subs : ∀ x ∈ s.subs, ∃ id, Grown id ck nx x ∧ 1 ≤ id ∧ id ≤ ls
theorem asc_len {lo : Int} : ∀ {l : List Sub} {hi : Int}, Asc l → (∀ x ∈ l, lo < x.id ∧ x.id ≤ hi) → (l.length : Int) ≤ max 0 (hi - lo) := by
  intro l
  induction l generalizing lo with
  | nil => intro hi _ _; simp; omega
  | cons y l ih =>
    intro hi h hb
    have h1 := List.pairwise_cons.1 h
    have hy := hb y (by simp)
    have := ih (lo := y.id) (hi := hi) h1.2 fun x hx => ⟨h1.1 x hx, (hb x (by simp [hx])).2⟩
    rw [List.length_cons]
    omega
theorem GrownS.len {ck nx ls : Nat} {s : Stt} (h : GrownS ck nx ls s) : s.subs.length ≤ 7 := by
  have := asc_len (lo := 0) (hi := ls) h.asc fun x hx => by
    obtain ⟨id, hg, h1, h2⟩ := h.subs x hx
    rw [hg.id]; omega
  have := h.lsle
  omega
theorem GrownS.fine {ck nx ls : Nat} {s : Stt} (h : GrownS ck nx ls s) : Fine s.subs := ⟨by have := h.len; omega, fun x hx => by
  obtain ⟨id, hg, _⟩ := h.subs x hx
  have := hg.nacks; omega, fun x hx => by
  obtain ⟨id, hg, _⟩ := h.subs x hx
  have := hg.nqueue; omega⟩
theorem GrownS.put {ck nx ls id : Nat} {s : Stt} (h : GrownS ck nx ls s) {x : Sub} (hx : Grown id ck nx x) (h1 : 1 ≤ id) (h2 : id ≤ ls) : GrownS ck nx ls { s with subs := putS s.subs x } :=
  ⟨h.clock, h.ckle, h.next, h.nxle, h.last, h.lsle, h.asc.put x, fun y hy => by
    rcases mem_put.1 hy with rfl | ⟨hy, _⟩
    · exact ⟨id, hx, h1, h2⟩
    · exact h.subs y hy⟩
end Go.Proofs.YtgliemhhnkhboaaGreatDoor
end
section
set_option linter.unusedVariables false
namespace Go.Proofs.YtgliemhhnkhboaaGreatDoor
open Go.Al
def topicF (k : Nat) : List UInt8 := match k % 4 with
  | 0 => [35]
  | 1 => [97]
  | 2 => [97, 47, 43]
  | _ => [98, 47, 35]
def wantF (k : Nat) : List UInt8 := match k / 4 % 3 with
  | 0 => []
  | 1 => [97, 61, 49]
  | _ => [97, 61, 49, 44, 98, 61, 50]
def attrF (k : Nat) : List UInt8 := match k % 3 with
  | 0 => []
  | 1 => [97, 61, 49]
  | _ => [98, 61, 50]
def whyF (k : Nat) : List UInt8 := match k % 2 with
  | 0 => [110, 97, 99, 107]
  | _ => [116, 105, 109, 101]
def prioF (q2 : UInt8) : Int := if 128 < q2.toNat then IntKind.i64.wrap (q2.toNat : Int) % 10 else 0
def msgW (q1 q2 : UInt8) (seq : Int) : Msg := ⟨seq, textL q1.toNat 60, attrF q2.toNat, 0, 0, false, [], prioF q2⟩
def msgF (clock : Int) (q1 q2 q3 : UInt8) (seq : Int) (x : Sub) : Msg :=
  match q3.toNat % 4 with
  | 0 => { msgW q1 q2 seq with tries := IntKind.i64.wrap (q3.toNat : Int) % x.most }
  | 1 => { msgW q1 q2 seq with tries := 1 + IntKind.i64.wrap (q3.toNat : Int) % x.most, until_ := clock + 1 + IntKind.i64.wrap (q1.toNat : Int) % x.lease }
  | 2 => { msgW q1 q2 seq with dead := true, tries := x.most, why := whyF q1.toNat }
  | _ => msgW q1 q2 seq
def seqF (q0 : UInt8) (seq : Int) : Int := seq + (1 + IntKind.i64.wrap ((q0.toNat : Int) % 3))
def subL (clock next : Int) : Nat → List UInt8 → Int → Sub → Sub
  | n + 1, q0 :: q1 :: q2 :: q3 :: r, seq, x =>
    if next ≤ seqF q0 seq then x
    else if 200 < q0.toNat ∧ x.acks.length < 20 then subL clock next n r (seqF q0 seq) { x with acks := x.acks ++ [seqF q0 seq] }
    else if x.queue.length = 30 then x
    else subL clock next n r (seqF q0 seq) { x with queue := x.queue ++ [msgF clock q1 q2 q3 (seqF q0 seq) x] }
  | _, _, _, x => x
theorem subL_0 (clock next : Int) (l : List UInt8) (seq : Int) (x : Sub) : subL clock next 0 l seq x = x := by cases l <;> rfl
theorem subL_short (clock next : Int) (n : Nat) (l : List UInt8) (seq : Int) (x : Sub) (h : l.length < 4) : subL clock next n l seq x = x := by
  match n, l, h with
  | 0, _, _ => exact subL_0 _ _ _ _ _
  | n + 1, [], _ => rfl
  | n + 1, [_], _ => rfl
  | n + 1, [_, _], _ => rfl
  | n + 1, [_, _, _], _ => rfl
  | n + 1, _ :: _ :: _ :: _ :: _, h => exact absurd h (by simp only [List.length_cons]; omega)
theorem drop4 {c : List UInt8} {i : Nat} {q0 q1 q2 q3 : UInt8} (h0 : c[i]? = some q0) (h1 : c[i + 1]? = some q1) (h2 : c[i + 2]? = some q2) (h3 : c[i + 3]? = some q3) : c.drop i = q0 :: q1 :: q2 :: q3 :: c.drop (i + 4) := by
  have e : ∀ {j : Nat} {q : UInt8}, c[j]? = some q → c.drop j = q :: c.drop (j + 1) := fun {j q} h => by
    obtain ⟨hj, he⟩ := List.getElem?_eq_some_iff.1 h
    rw [List.drop_eq_getElem_cons hj, he]
  rw [e h0, e h1, e h2, e h3]
def sub1 (c : List UInt8) (id next : Int) : Sub := ⟨id, [110] ++ textL (gL c 0) 19, topicF (gL c 1), wantF (gL c 1), 1 + (gL c 2 : Int) * 3, 1 + (gL c 3 : Int) % 9, (gL c 4 : Int) % next, [], [], []⟩
def sub2 (c : List UInt8) (id next : Int) : Sub := if 120 < gL c 5 then { sub1 c id next with note := textL (gL c 5) 30 } else sub1 c id next
def subF (c : List UInt8) (id clock next : Int) : Sub := subL clock next 15 (c.drop 6) (sub2 c id next).floor (sub2 c id next)
end Go.Proofs.YtgliemhhnkhboaaGreatDoor
end
section
set_option linter.unusedVariables false
set_option linter.unusedSimpArgs false
set_option maxRecDepth 100000
set_option maxHeartbeats 400000
namespace Go.Proofs.YtgliemhhnkhboaaGreatDoor
open Go.Al Go.RowKit
end Go.Proofs.YtgliemhhnkhboaaGreatDoor
end
section
set_option linter.unusedVariables false
set_option linter.unusedSimpArgs false
set_option maxRecDepth 100000
set_option maxHeartbeats 1000000
namespace Go.Proofs.YtgliemhhnkhboaaGreatDoor
open Go.Al Go.RowKit
def preR (x : Sub) : List Row := if x.acks = [] then [] else [⟨rkey 3 97 x.id 0, acksB x⟩]
end Go.Proofs.YtgliemhhnkhboaaGreatDoor
end
section
set_option linter.unusedVariables false
set_option linter.unusedSimpArgs false
set_option maxRecDepth 100000
set_option maxHeartbeats 2000000
namespace Go.Proofs.YtgliemhhnkhboaaGreatDoor
open Go.Al Go.RowKit
def subC (x : Sub) (ta tq : Tok) : List AV := [.int .i64 x.id, .str x.name, .str x.topic, .str x.want, .int .i64 x.lease, .int .i64 x.most, .int .i64 x.floor, .slc 1 (x.acks.map (.int .i64)) ta, .slc 8 (x.queue.map eMsg) tq, .str x.note]
def msgC (m : Msg) : List AV := [.int .i64 m.seq, .str m.body, .str m.attr, .int .i64 m.tries, .int .i64 m.until_, .bool m.dead, .str m.why, .int .i64 m.prio]
theorem weak_sub (x : Sub) (ta tq : Tok) : Weak (eSub x) (.agg (subC x ta tq)) := .agg (.cons (.refl _) (.cons (.refl _) (.cons (.refl _) (.cons (.refl _) (.cons (.refl _) (.cons (.refl _) (.cons (.refl _) (.cons (.tok _ _ _) (.cons (.tok _ _ _) (.cons (.refl _) .nil)))))))))) (by simp [AV.one, eInts, eMsgs])
def z10 : List AV := [.int .i64 0, .str [], .str [], .str [], .int .i64 0, .int .i64 0, .int .i64 0, .nils, .nils, .str []]
structure InSub (σ s : St) (b8 bx : Nat) (x : Sub) (ta tq : Tok) : Prop where
  r : s.box b8 = some z10
  b : s.box bx = some (subC x ta tq)
  ma : Moves σ .full s ta
  mq : Moves σ .full s tq
  d : ∀ p, tq = .own p → ta ≠ .own p
theorem InSub.set {σ s : St} {b8 bx : Nat} {x x' : Sub} {ta tq : Tok} (h : InSub σ s b8 bx x ta tq) (hne : b8 ≠ bx) (hbx : σ.box bx = none) : InSub σ (s.setBox bx (subC x' ta tq)) b8 bx x' ta tq :=
  ⟨hb_ne hne h.r, setBox_same, h.ma.new hbx, h.mq.new hbx, h.d⟩
theorem InSub.other {σ s : St} {b8 bx b : Nat} {x : Sub} {ta tq : Tok} {cs : List AV} (h : InSub σ s b8 bx x ta tq) (h8 : b8 ≠ b) (hx : bx ≠ b) (hb : σ.box b = none) : InSub σ (s.setBox b cs) b8 bx x ta tq :=
  ⟨hb_ne h8 h.r, hb_ne hx h.b, h.ma.new hb, h.mq.new hb, h.d⟩
theorem InSub.acks {σ s σ1 : St} {b8 bx : Nat} {x x' : Sub} {ta tq tk : Tok} (h : InSub σ s b8 bx x ta tq) (hne : b8 ≠ bx) (hbx : σ.box bx = none) (hm : Moves s ta σ1 tk) : InSub σ (σ1.setBox bx (subC x' tk tq)) b8 bx x' tk tq := by
  obtain ⟨h1, h2, h3⟩ := Moves.two h.ma h.mq h.d hm
  exact ⟨hb_ne hne (hm.box _ _ h.r), setBox_same, h1.new hbx, h2.new hbx, h3⟩
theorem InSub.queue {σ s σ1 : St} {b8 bx : Nat} {x x' : Sub} {ta tq tk : Tok} (h : InSub σ s b8 bx x ta tq) (hne : b8 ≠ bx) (hbx : σ.box bx = none) (hm : Moves s tq σ1 tk) : InSub σ (σ1.setBox bx (subC x' ta tk)) b8 bx x' ta tk := by
  obtain ⟨h1, h2, h3⟩ := Moves.two h.mq h.ma (fun p e e' => h.d p e' e) hm
  exact ⟨hb_ne hne (hm.box _ _ h.r), setBox_same, h2.new hbx, h1.new hbx, fun p e e' => h3 p e' e⟩
theorem sub_any2 (w0 : Base) (c : List UInt8) (t : Tok) (id clock next : Nat) (hc : c.length ≤ 9223372036854775807) (hid : id ≤ 1000) (hclock : clock ≤ 100000000) (hnext : 1 ≤ next ∧ next ≤ 100000) (σ : St) :
    CallW Tryz.prog w0 12 [.slc 1 (aBytes c) t, .int .i64 id, .int .i64 clock, .int .i64 next] σ (fun r s => ∃ x, r = eSub x ∧ Grown id clock next x ∧ x = subF c id clock next ∧ s = σ) := by
  refine CallW.start Tryz.func12 rfl Tryz.ntmps12 (by simp) fun Q hQ => ?_
  have g0 := gL_lt c 0
  have g1 := gL_lt c 1
  have g2 := gL_lt c 2
  have g3 := gL_lt c 3
  have g4 := gL_lt c 4
  have hm0 : gL c 0 % 20 ≤ 19 := by omega
  have hlt0 := textL_len (gL c 0) 19
  refine W.seq ?_; refine W.regionL (by decide +kernel) rfl ?_; apply r_alloc; exact rfl; exact rfl; decide; exact rfl; (conv => (lhs; whnf)); intro b1 hb1; refine runs_done ?_; show W _ _ _ _ _ _ _
  obtain ⟨tp, htp, htl, htf⟩ : ∃ v : List UInt8, [AV.str [35], .str [97], .str [97, 47, 43], .str [98, 47, 35]][((gL c 1 : Int) % 4).toNat]? = some (.str v) ∧ TopicOk v ∧ v = topicF (gL c 1) := by
    have h : gL c 1 % 4 < 4 := Nat.mod_lt _ (by decide)
    rw [show ((gL c 1 : Int) % 4).toNat = gL c 1 % 4 by omega]
    unfold topicF
    generalize gL c 1 % 4 = q at h ⊢
    match q, h with
    | 0, _ => exact ⟨_, rfl, .inl rfl, rfl⟩
    | 1, _ => exact ⟨_, rfl, .inr (.inl rfl), rfl⟩
    | 2, _ => exact ⟨_, rfl, .inr (.inr (.inl rfl)), rfl⟩
    | 3, _ => exact ⟨_, rfl, .inr (.inr (.inr rfl)), rfl⟩
  obtain ⟨wn, hwn, hwl, hwf⟩ : ∃ v : List UInt8, [AV.str [], .str [97, 61, 49], .str [97, 61, 49, 44, 98, 61, 50]][((gL c 1 : Int) / 4 % 3).toNat]? = some (.str v) ∧ WantOk v ∧ v = wantF (gL c 1) := by
    have h : gL c 1 / 4 % 3 < 3 := Nat.mod_lt _ (by decide)
    rw [show ((gL c 1 : Int) / 4 % 3).toNat = gL c 1 / 4 % 3 by omega]
    unfold wantF
    generalize gL c 1 / 4 % 3 = q at h ⊢
    match q, h with
    | 0, _ => exact ⟨_, rfl, .inl rfl, rfl⟩
    | 1, _ => exact ⟨_, rfl, .inr (.inl rfl), rfl⟩
    | 2, _ => exact ⟨_, rfl, .inr (.inr rfl), rfl⟩
  refine W.seq ?_; refine W.regionDK 0 [] Ty.mixed (by decide +kernel) (by decide +kernel) rfl ?_; apply r_op; exact rfl; exact rfl; apply a_move; (conv => (lhs; whnf)); apply r_op; exact rfl; exact rfl; apply a_move; (conv => (lhs; whnf)); apply r_callP; exact rfl; exact rfl; exact rfl; exact rfl; exact rfl; infer_instance; exact g_any w0 c t 0; apply r_callP; exact rfl; exact rfl; exact rfl
  exact rfl; exact rfl; infer_instance; exact lawtext_any w0 (gL c 0) 19 (by omega) (by omega); apply r_op; exact rfl; exact rfl; apply g_binOp; exact a_addS rfl rfl (by simp only [length_aBytes, List.length_append, List.length_cons, List.length_nil, List.length_map, List.length_range]; omega); apply r_op; exact rfl; exact rfl; apply g_buildSlice; apply a_buildN
  apply EvP.cons (by (conv => (lhs; whnf))); apply EvP.cons (by (conv => (lhs; whnf))); apply EvP.cons (by (conv => (lhs; whnf))); apply EvP.cons (by (conv => (lhs; whnf))); exact EvP.nil; (conv => (lhs; whnf)); exact rfl; exact rfl; decide; apply r_op; exact rfl; exact rfl; apply a_move; (conv => (lhs; whnf)); apply r_callP; exact rfl; exact rfl; exact rfl; exact rfl; exact rfl; infer_instance
  exact g_any w0 c t 1; apply r_op; exact rfl; exact rfl; apply g_binOp; exact a_rem rfl rfl (by omega); apply r_op; exact rfl; exact rfl; apply g_indexAddr; exact a_indexAddr rfl rfl (by decide) (by omega) (by assumption); apply r_op; exact rfl; exact rfl; apply g_load; exact a_load1 rfl rfl; apply r_op; exact rfl; exact rfl; apply g_buildSlice; apply a_buildN
  apply EvP.cons (by (conv => (lhs; whnf))); apply EvP.cons (by (conv => (lhs; whnf))); apply EvP.cons (by (conv => (lhs; whnf))); exact EvP.nil; (conv => (lhs; whnf)); exact rfl; exact rfl; decide; apply r_op; exact rfl; exact rfl; apply a_move; (conv => (lhs; whnf)); apply r_callP; exact rfl; exact rfl; exact rfl; exact rfl; exact rfl; infer_instance; exact g_any w0 c t 1; apply r_op; exact rfl
  exact rfl; apply g_binOp; exact a_quo64 rfl rfl (by omega); apply r_op; exact rfl; exact rfl; apply g_binOp; exact a_rem rfl rfl (by omega); apply r_op; exact rfl; exact rfl; apply g_indexAddr; exact a_indexAddr rfl rfl (by decide) (by omega) (by assumption); apply r_op; exact rfl; exact rfl; apply g_load; exact a_load1 rfl rfl; apply r_op; exact rfl; exact rfl; apply a_move
  (conv => (lhs; whnf)); apply r_callP; exact rfl; exact rfl; exact rfl; exact rfl; exact rfl; infer_instance; exact g_any w0 c t 2; apply r_op; exact rfl; exact rfl; apply g_binOp; exact a_mul64 rfl rfl (by omega); apply r_op; exact rfl; exact rfl; apply g_binOp; exact a_add64 rfl rfl (by omega); apply r_op; exact rfl; exact rfl; apply a_move; (conv => (lhs; whnf)); apply r_callP; exact rfl
  exact rfl; exact rfl; exact rfl; exact rfl; infer_instance; exact g_any w0 c t 3; apply r_op; exact rfl; exact rfl; apply g_binOp; exact a_rem rfl rfl (by omega); apply r_op; exact rfl; exact rfl; apply g_binOp; exact a_add64 rfl rfl (by omega); apply r_op; exact rfl; exact rfl; apply a_move; (conv => (lhs; whnf)); apply r_callP; exact rfl; exact rfl; exact rfl; exact rfl; exact rfl
  infer_instance; exact g_any w0 c t 4; apply r_op; exact rfl; exact rfl; apply a_move; (conv => (lhs; whnf)); apply r_op; exact rfl; exact rfl; apply g_binOp; exact a_rem rfl rfl (by omega); apply r_op; exact rfl; exact rfl; apply g_build; apply a_build; apply EvP.cons (by (conv => (lhs; whnf))); apply EvP.cons (by (conv => (lhs; whnf))); apply EvP.cons (by (conv => (lhs; whnf)))
  apply EvP.cons (by (conv => (lhs; whnf))); apply EvP.cons (by (conv => (lhs; whnf))); apply EvP.cons (by (conv => (lhs; whnf))); apply EvP.cons (by (conv => (lhs; whnf))); exact EvP.nil
  simp only [aFill, List.getElem?_cons_zero, List.getElem?_cons_succ, AV.cells, List.length_cons, List.length_nil, AV.flat, AV.one, setL, List.set_cons_zero, List.set_cons_succ, Nat.reduceAdd, Nat.reduceLeDiff, Nat.reduceMul, and_self, if_true, ↓reduceIte, Nat.zero_add, Nat.le_refl, List.range, List.range.loop, List.map_cons, List.map_nil, Nat.zero_le]
  rfl; apply r_alloc; exact rfl; exact rfl; decide; exact rfl; (conv => (lhs; whnf)); intro b1 hb1; apply r_store; exact rfl; exact rfl; exact rfl; decide; infer_instance; exact rfl; exact setBox_same; (conv => (lhs; whnf)); exact rfl; (conv => (lhs; whnf)); exact rfl; exact of_decide_eq_true rfl; exact setL_whole rfl; refine runs_done ?_; show W _ _ _ _ _ _ _
  rename_i b8 hb8
  have hne : b8 ≠ b1 := ne_none' hb1
  have hbx : σ.box b1 = none := none_in hb1
  generalize b1 = bx at hne hbx hb1 ⊢
  generalize hx1 : (⟨id, [110] ++ textL (gL c 0) 19, tp, wn, 1 + (gL c 2 : Int) * 3, 1 + (gL c 3 : Int) % 9, (gL c 4 : Int) % (next : Int), [], [], []⟩ : Sub) = x1
  have hx1e : x1 = sub1 c id next := by rw [← hx1, htf, hwf]; rfl
  have hs1 : InSub σ (((σ.setBox b8 z10).setBox bx z10).setBox bx (subC x1 .full .full)) b8 bx x1 .full .full := by
    rw [setBox_setBox]
    exact ⟨hb_ne hne setBox_same, setBox_same, ((Moves.full σ).new hb8).new hbx, ((Moves.full σ).new hb8).new hbx, fun p e => by cases e⟩
  have hgr : Grown id clock next x1 := by
    subst hx1
    refine ⟨⟨gL c 0, g0, rfl⟩, htl, hwl, by simp, rfl, ?_, ?_, ?_, by simp, by simp, trivial, by simp, trivial, by simp, by simp, by simp⟩
    · show 1 ≤ 1 + (gL c 3 : Int) % 9 ∧ 1 + (gL c 3 : Int) % 9 ≤ 9; omega
    · show 1 ≤ 1 + (gL c 2 : Int) * 3 ∧ 1 + (gL c 2 : Int) * 3 ≤ 1000; omega
    · exact ⟨Int.emod_nonneg _ (by omega), Int.emod_lt_of_pos _ (by omega)⟩
  have hup : UpTo x1 x1.floor := by subst hx1; exact ⟨Int.le_refl _, by simp, by simp⟩
  refine W.weakBox (b := bx) (ds := subC x1 .full .full) setBox_same ?_ ?_
  · subst hx1
    exact .cons (.refl _) (.cons (.refl _) (.cons (.refl _) (.cons (.refl _) (.cons (.refl _) (.cons (.refl _) (.cons (.refl _) (.cons (.nils 1 .full (.inr rfl)) (.cons (.nils 8 .full (.inr rfl)) (.cons (.refl _) .nil)))))))))
  rw [setBox_setBox, setBox_setBox]
  rw [setBox_setBox] at hs1
  change W Tryz.prog w0 _ _ _ _ ((σ.setBox b8 z10).setBox bx (subC x1 .full .full))
  generalize (σ.setBox b8 z10).setBox bx (subC x1 .full .full) = s1 at hs1 ⊢
  have hlt5 := textL_len (gL c 5) 30
  have g5 := gL_lt c 5
  refine W.seq ?_; refine W.meet (fun E s => ∃ x, Grown id clock next x ∧ UpTo x x.floor ∧ InSub σ s b8 bx x .full .full ∧ x = sub2 c id next ∧ Has [(0, .slc 1 (aBytes c) t), (2, .int .i64 clock), (3, .int .i64 next), (8, .ptr b8 0), (9, .ptr bx 0)] E) ?_ ?_
  · have hb1 := hs1.b
    refine W.seq ?_; refine W.regionL (by decide +kernel) rfl ?_; apply r_op; exact rfl; exact rfl; apply a_move; (conv => (lhs; whnf)); apply r_callP; exact rfl; exact rfl; exact rfl; exact rfl; exact rfl; infer_instance; exact g_any w0 c t 5; apply r_op; exact rfl; exact rfl; apply g_binOp; exact a_binI rfl rfl rfl; (with_reducible refine runs_done ?_)
    refine W.cond rfl (fun hc => ?_) (fun hc => ?_)
    · refine W.regionL (by decide +kernel) rfl ?_
      apply r_op; exact rfl; exact rfl; apply a_move; (conv => (lhs; whnf)); apply r_callP; exact rfl; exact rfl; exact rfl; exact rfl; exact rfl; infer_instance; exact g_any w0 c t 5; apply r_callP; exact rfl; exact rfl; exact rfl; exact rfl; exact rfl; infer_instance; exact lawtext_any w0 (gL c 5) 30 (by omega) (by omega); apply r_op; exact rfl; exact rfl; apply g_fieldAddr
      exact a_fieldAddrP rfl (by decide); apply r_store; exact rfl; exact rfl; exact rfl; decide; infer_instance; exact rfl; assumption; (conv => (lhs; whnf)); exact rfl; (conv => (lhs; whnf)); exact rfl; exact of_decide_eq_true rfl; exact rfl; (with_reducible refine runs_done ?_)
      exact ⟨{ x1 with note := textL (gL c 5) 30 }, hgr.withNote hlt5, ⟨hup.floor, hup.acks, hup.queue⟩, hs1.set (x' := { x1 with note := textL (gL c 5) 30 }) hne hbx, by rw [sub2, if_pos (by have := of_decide_eq_true hc; omega), hx1e], by exact Has.by (by repeat (first | exact trivial | refine ⟨by first | trivial | exact Weak.refl _ | exact Weak.tok _ _ _ | exact Weak.of_eq (congrArg (AV.int _) (by omega)) | exact Weak.nils _ _ (.inr rfl), ?_⟩))⟩
    · refine W.skip ?_
      exact ⟨x1, hgr, hup, hs1, by rw [sub2, if_neg (by have := of_decide_eq_false hc; omega), hx1e], by exact Has.by (by repeat (first | exact trivial | refine ⟨by first | trivial | exact Weak.refl _ | exact Weak.tok _ _ _ | exact Weak.of_eq (congrArg (AV.int _) (by omega)) | exact Weak.nils _ _ (.inr rfl), ?_⟩))⟩
  · rintro E s ⟨x, hgr, hup, hs, hx2, hE⟩
    refine W.has hE ?_; clear hE hs1
    have hb := hs.b
    refine W.seq ?_; refine W.regionL (by decide +kernel) rfl ?_; apply r_op; exact rfl; exact rfl; apply g_fieldAddr; exact a_fieldAddrP rfl (by decide); apply r_load; exact rfl; exact rfl; exact rfl; decide; exact rfl; assumption; exact aLoad1 rfl; apply r_op; exact rfl; exact rfl; apply a_assign; (conv => (lhs; whnf)); refine runs_done ?_; show W _ _ _ _ _ _ _; refine W.seq ?_
    refine W.meet (fun E s => ∃ x ta tq, Grown id clock next x ∧ InSub σ s b8 bx x ta tq ∧ x = subF c id clock next ∧ Has [(8, .ptr b8 0), (9, .ptr bx 0)] E) ?_ ?_
    · refine W.seq ?_
      refine W.regionL (by decide +kernel) rfl ?_; apply r_op; exact rfl; exact rfl; apply a_assign; (conv => (lhs; whnf)); (with_reducible refine runs_done ?_); refine W.block ?_
      refine W.loop (fun k E s => ∃ (i : Nat) (seq : Int) (x : Sub) (ta tq : Tok), k = 100 - i ∧ 6 ≤ i ∧ i ≤ 69 ∧ 0 ≤ seq ∧ seq < next ∧ Grown id clock next x ∧ UpTo x seq ∧ InSub σ s b8 bx x ta tq ∧ (∃ n, i + 4 * n = 66 ∧ subL clock next n (c.drop i) seq x = subF c id clock next) ∧ Has [(0, .slc 1 (aBytes c) t), (2, .int .i64 clock), (3, .int .i64 next), (8, .ptr b8 0), (9, .ptr bx 0), (10, .int .i64 seq), (11, .int .i64 i)] E) 94 ⟨6, x.floor, x, .full, .full, rfl, by omega, by omega, hgr.floor.1, hgr.floor.2, hgr, hup, hs, ⟨15, by omega, by rw [hx2]; rfl⟩, by exact Has.by (by repeat (first | exact trivial | refine ⟨by first | trivial | exact Weak.refl _ | exact Weak.tok _ _ _ | exact Weak.of_eq (congrArg (AV.int _) (by omega)) | exact Weak.nils _ _ (.inr rfl), ?_⟩))⟩ ?_
      clear hup hs hb hgr hx2 x; rintro k E s ⟨i, seq, x, ta, tq, rfl, hi6, hi69, hs0, hsn, hgr, hup, hs, ⟨n, hn66, hR⟩, hE⟩; refine W.has hE ?_; clear hE
      have hb := hs.b
      have hla := length_aBytes c
      by_cases hlen : ¬ (i + 3 < c.length)
      · have d1 : decide ((i : Int) + 3 < ((aBytes c).length : Int)) = false := decide_eq_false (by rw [hla]; omega)
        refine W.seq ?_; refine W.seq ?_; refine W.regionL (by decide +kernel) rfl ?_; apply r_op; exact rfl; exact rfl; apply a_move; (conv => (lhs; whnf)); apply r_op; exact rfl; exact rfl; apply g_binOp; exact a_add64 rfl rfl (by omega); apply r_op; exact rfl; exact rfl; apply a_move; (conv => (lhs; whnf)); apply r_op; exact rfl; exact rfl; apply g_call; exact a_len_slc rfl; apply r_op
        exact rfl; exact rfl; apply g_binOp; exact a_binI rfl rfl rfl; apply r_op; exact rfl; exact rfl; apply a_move; (conv => (lhs; whnf)); apply q_skip; exact rfl; exact want_f rfl rfl rfl (by assumption); apply q_skip; exact rfl; exact want_f rfl rfl rfl (by assumption); apply r_op; exact rfl; exact rfl; apply g_pick; apply a_pickF rfl (by assumption); (conv => (lhs; whnf))
        (with_reducible refine runs_done ?_); refine W.condF rfl (by exact rfl) ?_; refine W.exit ?_
        exact ⟨x, ta, tq, hgr, hs, (subL_short _ _ _ _ _ _ (by rw [List.length_drop]; omega)).symm.trans hR, by exact Has.by (by repeat (first | exact trivial | refine ⟨by first | trivial | exact Weak.refl _ | exact Weak.tok _ _ _ | exact Weak.of_eq (congrArg (AV.int _) (by omega)) | exact Weak.nils _ _ (.inr rfl), ?_⟩))⟩
      have hlen := Decidable.of_not_not hlen
      have d1 : decide ((i : Int) + 3 < ((aBytes c).length : Int)) = true := decide_eq_true (by rw [hla]; omega)
      by_cases h66 : ¬ (i < 66)
      · have d2 : decide ((i : Int) < 66) = false := decide_eq_false (by omega)
        refine W.seq ?_; refine W.seq ?_; refine W.regionL (by decide +kernel) rfl ?_; apply r_op; exact rfl; exact rfl; apply a_move; (conv => (lhs; whnf)); apply r_op; exact rfl; exact rfl; apply g_binOp; exact a_add64 rfl rfl (by omega); apply r_op; exact rfl; exact rfl; apply a_move; (conv => (lhs; whnf)); apply r_op; exact rfl; exact rfl; apply g_call; exact a_len_slc rfl; apply r_op
        exact rfl; exact rfl; apply g_binOp; exact a_binI rfl rfl rfl; apply r_op; exact rfl; exact rfl; apply a_move; (conv => (lhs; whnf)); apply r_op; exact rfl; exact want_t rfl rfl rfl (by assumption); apply a_move; (conv => (lhs; whnf)); apply r_op; exact rfl; exact want_t rfl rfl rfl (by assumption); apply g_binOp; exact a_binI rfl rfl rfl; apply r_op; exact rfl; exact rfl; apply g_pick
        apply a_pickT rfl (by assumption); (conv => (lhs; whnf)); (with_reducible refine runs_done ?_); refine W.condF rfl (by assumption) ?_; refine W.exit ?_
        exact ⟨x, ta, tq, hgr, hs, (by have h0 : n = 0 := (by omega); subst h0; exact (subL_0 _ _ _ _ _).symm.trans hR), by exact Has.by (by repeat (first | exact trivial | refine ⟨by first | trivial | exact Weak.refl _ | exact Weak.tok _ _ _ | exact Weak.of_eq (congrArg (AV.int _) (by omega)) | exact Weak.nils _ _ (.inr rfl), ?_⟩))⟩
      have h66 := Decidable.of_not_not h66
      have d2 : decide ((i : Int) < 66) = true := decide_eq_true (by omega)
      obtain ⟨q0, gi0⟩ : ∃ q : UInt8, c[((i : Int)).toNat]? = some q := ⟨c[i]'(by omega), by simp⟩
      obtain ⟨q1, gi1⟩ : ∃ q : UInt8, c[((i : Int) + 1).toNat]? = some q := ⟨c[i + 1]'(by omega), by rw [show ((i : Int) + 1).toNat = i + 1 by omega]; simp⟩
      obtain ⟨q2, gi2⟩ : ∃ q : UInt8, c[((i : Int) + 2).toNat]? = some q := ⟨c[i + 2]'(by omega), by rw [show ((i : Int) + 2).toNat = i + 2 by omega]; simp⟩
      obtain ⟨q3, gi3⟩ : ∃ q : UInt8, c[((i : Int) + 3).toNat]? = some q := ⟨c[i + 3]'(by omega), by rw [show ((i : Int) + 3).toNat = i + 3 by omega]; simp⟩
      have l0 := q0.toNat_lt
      have l1 := q1.toNat_lt
      have l2 := q2.toNat_lt
      have l3 := q3.toNat_lt
      have w0' : IntKind.i64.wrap ((q0.toNat : Int) % 3) = (q0.toNat : Int) % 3 := IntWalk.i64_in _ (by omega)
      have w1 : IntKind.i64.wrap (q1.toNat : Int) = (q1.toNat : Int) := IntWalk.i64_in _ (by omega)
      have w2 : IntKind.i64.wrap (q2.toNat : Int) = (q2.toNat : Int) := IntWalk.i64_in _ (by omega)
      have w3 : IntKind.i64.wrap (q3.toNat : Int) = (q3.toNat : Int) := IntWalk.i64_in _ (by omega)
      have hmost := hgr.most
      have hlease := hgr.lease
      have hml := Int.emod_nonneg (IntKind.i64.wrap (q1.toNat : Int)) (show x.lease ≠ 0 by omega)
      have hml2 := Int.emod_lt_of_pos (IntKind.i64.wrap (q1.toNat : Int)) (show 0 < x.lease by omega)
      have hmm := Int.emod_nonneg (IntKind.i64.wrap (q3.toNat : Int)) (show x.most ≠ 0 by omega)
      have hmm2 := Int.emod_lt_of_pos (IntKind.i64.wrap (q3.toNat : Int)) (show 0 < x.most by omega)
      have ht60 : CallP Tryz.prog w0 28 [.int .i64 (IntKind.i64.wrap (q1.toNat : Int)), .int .i64 60] (.str (textL q1.toNat 60)) := by
        rw [w1]; exact lawtext_any w0 q1.toNat 60 (by omega) (by omega)
      have hl60 := textL_len q1.toNat 60
      obtain ⟨at_, hat, hatl, hatf⟩ : ∃ v : List UInt8, [AV.str [], .str [97, 61, 49], .str [98, 61, 50]][((q2.toNat : Int) % 3).toNat]? = some (.str v) ∧ (v = [] ∨ v = [97, 61, 49] ∨ v = [98, 61, 50]) ∧ v = attrF q2.toNat := by
        have h : q2.toNat % 3 < 3 := Nat.mod_lt _ (by decide)
        rw [show ((q2.toNat : Int) % 3).toNat = q2.toNat % 3 by omega]
        unfold attrF
        generalize q2.toNat % 3 = q at h ⊢
        match q, h with
        | 0, _ => exact ⟨_, rfl, .inl rfl, rfl⟩
        | 1, _ => exact ⟨_, rfl, .inr (.inl rfl), rfl⟩
        | 2, _ => exact ⟨_, rfl, .inr (.inr rfl), rfl⟩
      obtain ⟨wy, hwy, hwyl, hwyf⟩ : ∃ v : List UInt8, [AV.str [110, 97, 99, 107], .str [116, 105, 109, 101]][((q1.toNat : Int) % 2).toNat]? = some (.str v) ∧ (v = [110, 97, 99, 107] ∨ v = [116, 105, 109, 101]) ∧ v = whyF q1.toNat := by
        have h : q1.toNat % 2 < 2 := Nat.mod_lt _ (by decide)
        rw [show ((q1.toNat : Int) % 2).toNat = q1.toNat % 2 by omega]
        unfold whyF
        generalize q1.toNat % 2 = q at h ⊢
        match q, h with
        | 0, _ => exact ⟨_, rfl, .inl rfl, rfl⟩
        | 1, _ => exact ⟨_, rfl, .inr rfl, rfl⟩
      obtain ⟨n, rfl⟩ : ∃ m, n = m + 1 := ⟨n - 1, by omega⟩
      rw [drop4 (q0 := q0) (q1 := q1) (q2 := q2) (q3 := q3) (by simpa using gi0) (by rw [← show ((i : Int) + 1).toNat = i + 1 by omega]; exact gi1) (by rw [← show ((i : Int) + 2).toNat = i + 2 by omega]; exact gi2) (by rw [← show ((i : Int) + 3).toNat = i + 3 by omega]; exact gi3), subL] at hR
      have hnq := hgr.nqueue
      have hna := hgr.nacks
      refine W.seq ?_; refine W.seq ?_; refine W.regionL (by decide +kernel) rfl ?_; apply r_op; exact rfl; exact rfl; apply a_move; (conv => (lhs; whnf)); apply r_op; exact rfl; exact rfl; apply g_binOp; exact a_add64 rfl rfl (by omega); apply r_op; exact rfl; exact rfl; apply a_move; (conv => (lhs; whnf)); apply r_op; exact rfl; exact rfl; apply g_call; exact a_len_slc rfl; apply r_op; exact rfl
      exact rfl; apply g_binOp; exact a_binI rfl rfl rfl; apply r_op; exact rfl; exact rfl; apply a_move; (conv => (lhs; whnf)); apply r_op; exact rfl; exact want_t rfl rfl rfl (by assumption); apply a_move; (conv => (lhs; whnf)); apply r_op; exact rfl; exact want_t rfl rfl rfl (by assumption); apply g_binOp; exact a_binI rfl rfl rfl; apply r_op; exact rfl; exact rfl; apply g_pick
      apply a_pickT rfl (by assumption); (conv => (lhs; whnf)); (with_reducible refine runs_done ?_); refine W.condT rfl (by assumption) ?_; refine W.skip ?_; show W _ _ _ _ _ _ _; refine W.seq ?_; refine W.block ?_; refine W.seq ?_; refine W.regionL (by decide +kernel) rfl ?_; apply r_op; exact rfl; exact rfl; apply a_move; (conv => (lhs; whnf)); apply r_op; exact rfl; exact rfl; apply a_move
      (conv => (lhs; whnf)); apply r_op; exact rfl; exact rfl; apply a_move; (conv => (lhs; whnf)); apply r_op; exact rfl; exact rfl; apply g_indexAddr; exact a_indexAddr rfl rfl (by decide) (by omega) (by exact get_bytes (by assumption)); apply r_op; exact rfl; exact rfl; apply g_load; exact a_load1 rfl rfl; apply r_op; exact rfl; exact rfl; apply g_binOp; exact a_rem rfl rfl (by omega)
      apply r_op; exact rfl; exact rfl; apply g_convert; exact a_convI rfl; apply r_op; exact rfl; exact rfl; apply g_binOp; exact a_add64 rfl rfl (by omega); apply r_op; exact rfl; exact rfl; apply g_binOp; exact a_add64 rfl rfl (by omega); apply r_op; exact rfl; exact rfl; apply a_assign; (conv => (lhs; whnf)); (with_reducible refine runs_done ?_); refine W.seq ?_; refine W.seq ?_
      refine W.regionL (by decide +kernel) rfl ?_; apply r_op; exact rfl; exact rfl; apply a_move; (conv => (lhs; whnf)); apply r_op; exact rfl; exact rfl; apply a_move; (conv => (lhs; whnf)); apply r_op; exact rfl; exact rfl; apply g_binOp; exact a_binI rfl rfl rfl; (with_reducible refine runs_done ?_); refine W.cond rfl (fun hc => ?_) (fun hc => ?_)
      · refine W.exit ?_
        exact ⟨x, ta, tq, hgr, hs, by rw [if_pos (by have := of_decide_eq_true hc; unfold seqF; omega)] at hR; exact hR, by exact Has.by (by repeat (first | exact trivial | refine ⟨by first | trivial | exact Weak.refl _ | exact Weak.tok _ _ _ | exact Weak.of_eq (congrArg (AV.int _) (by omega)) | exact Weak.nils _ _ (.inr rfl), ?_⟩))⟩
      rw [if_neg (by have := of_decide_eq_false hc; unfold seqF; omega), show seqF q0 seq = seq + (1 + IntKind.i64.wrap ((q0.toNat : Int) % 3)) from rfl] at hR
      have hsq : seq + (1 + IntKind.i64.wrap ((q0.toNat : Int) % 3)) < next := by have := of_decide_eq_false hc; omega
      have hsq0 : 0 ≤ seq + (1 + IntKind.i64.wrap ((q0.toNat : Int) % 3)) := by omega
      have hsq1 : seq < seq + (1 + IntKind.i64.wrap ((q0.toNat : Int) % 3)) := by omega
      generalize seq + (1 + IntKind.i64.wrap ((q0.toNat : Int) % 3)) = seq1 at hsq hsq0 hsq1 hR ⊢
      clear hc; refine W.skip ?_; show W _ _ _ _ _ _ _; refine W.seq ?_; refine W.meet (fun E s' => s' = s ∧ ¬ (200 < q0.toNat ∧ x.acks.length < 20) ∧ Has [(0, .slc 1 (aBytes c) t), (2, .int .i64 clock), (3, .int .i64 next), (8, .ptr b8 0), (9, .ptr bx 0), (10, .int .i64 seq1), (11, .int .i64 i)] E) ?_ ?_
      · have hm0 := Moves.refl hs.ma.room
        refine W.seq ?_; refine W.regionL (by decide +kernel) rfl ?_; apply r_op; exact rfl; exact rfl; apply a_move; (conv => (lhs; whnf)); apply r_op; exact rfl; exact rfl; apply a_move; (conv => (lhs; whnf)); apply r_op; exact rfl; exact rfl; apply g_indexAddr; exact a_indexAddr rfl rfl (by decide) (by omega) (by exact get_bytes (by assumption)); apply r_op; exact rfl; exact rfl; apply g_load
        exact a_load1 rfl rfl; apply r_op; exact rfl; exact rfl; apply g_binOp; exact a_binI rfl rfl rfl; apply r_op; exact rfl; exact rfl; apply a_move; (conv => (lhs; whnf)); refine q_split rfl rfl rfl (fun hg => ?_) (fun hg => ?_); apply r_op; exact rfl; exact want_t rfl rfl rfl (by assumption); apply g_fieldAddr; exact a_fieldAddrP rfl (by decide); apply r_load; exact rfl; exact rfl; exact rfl
        decide; exact want_t rfl rfl rfl (by assumption); assumption; exact aLoad1 rfl; apply r_op; exact rfl; exact want_t rfl rfl rfl (by assumption); apply g_call; exact a_len_slc rfl; apply r_op; exact rfl; exact want_t rfl rfl rfl (by assumption); apply g_binOp; exact a_binI rfl rfl rfl; apply r_op; exact rfl; exact rfl; apply g_pick; apply a_pickT rfl (by assumption); (conv => (lhs; whnf))
        (with_reducible refine runs_done ?_); refine W.cond rfl (fun hc => ?_) (fun hc => ?_); refine W.seq ?_; refine W.regionL (by decide +kernel) rfl ?_; apply r_op; exact rfl; exact rfl; apply g_fieldAddr; exact a_fieldAddrP rfl (by decide); apply r_load; exact rfl; exact rfl; exact rfl; decide; exact rfl; assumption; exact aLoad1 rfl; apply r_op; exact rfl; exact rfl; apply a_move
        (conv => (lhs; whnf)); apply r_op; exact rfl; exact rfl; apply g_buildSlice; apply a_build1; (conv => (lhs; whnf)); exact rfl; exact rfl; decide; apply r_append'; exact rfl; exact rfl; decide; infer_instance; exact rfl; exact rfl; exact rfl; exact rfl; exact rfl; assumption
        simp only [length_aBytes, List.length_append, List.length_cons, List.length_nil, List.length_map, List.length_range]
        omega; intro tk1 σ1 hm; apply r_op; exact rfl; exact rfl; apply g_fieldAddr; exact a_fieldAddrP rfl (by decide); apply r_store; exact rfl; exact rfl; exact rfl; decide; infer_instance; exact rfl; apply hb_moves (by assumption); assumption; (conv => (lhs; whnf)); exact rfl; (conv => (lhs; whnf)); exact rfl; exact of_decide_eq_true rfl; exact rfl; (with_reducible refine runs_done ?_)
        refine W.exit ?_; show W _ _ _ _ _ _ _; refine W.regionL (by decide +kernel) rfl ?_; apply r_op; exact rfl; exact rfl; apply a_move; (conv => (lhs; whnf)); apply r_op; exact rfl; exact rfl; apply g_binOp; exact a_add64 rfl rfl (by omega); apply r_op; exact rfl; exact rfl; apply a_assign; (conv => (lhs; whnf)); (with_reducible refine runs_done ?_); rotate_left; refine W.skip ?_; rotate_left
        apply q_skip; exact rfl; exact want_f rfl rfl rfl (by assumption); apply q_skip; exact rfl; exact want_f rfl rfl rfl (by assumption); apply q_skip; exact rfl; exact want_f rfl rfl rfl (by assumption); apply q_skip; exact rfl; exact want_f rfl rfl rfl (by assumption); apply r_op; exact rfl; exact rfl; apply g_pick; apply a_pickF rfl (by assumption); (conv => (lhs; whnf))
        (with_reducible refine runs_done ?_); refine W.condF rfl (by exact rfl) ?_; refine W.skip ?_; rotate_left
        · have hq20 : x.acks.length < 20 := by have := of_decide_eq_true hc; simp at this; omega
          have h9 := hs.acks (x' := { x with acks := x.acks ++ [seq1] }) hne hbx hm
          simp only [subC, List.map_append, List.map_cons, List.map_nil] at h9
          obtain ⟨k1, k2⟩ := hgr.ack hup hsq1 hsq hq20
          exact ⟨100 - (i + 4), by omega, i + 4, seq1, { x with acks := x.acks ++ [seq1] }, tk1, tq, rfl, by omega, by omega, hsq0, hsq, k1, k2, h9, ⟨n, by omega, by rw [if_pos ⟨by have := of_decide_eq_true hg; omega, hq20⟩] at hR; exact hR⟩, by exact Has.by (by repeat (first | exact trivial | refine ⟨by first | trivial | exact Weak.refl _ | exact Weak.tok _ _ _ | exact Weak.of_eq (congrArg (AV.int _) (by omega)) | exact Weak.nils _ _ (.inr rfl), ?_⟩))⟩
        · exact ⟨rfl, by simp only [decide_eq_true_eq, decide_eq_false_iff_not, List.length_map] at *; omega, by exact Has.by (by repeat (first | exact trivial | refine ⟨by first | trivial | exact Weak.refl _ | exact Weak.tok _ _ _ | exact Weak.of_eq (congrArg (AV.int _) (by omega)) | exact Weak.nils _ _ (.inr rfl), ?_⟩))⟩
        · exact ⟨rfl, by simp only [decide_eq_true_eq, decide_eq_false_iff_not, List.length_map] at *; omega, by exact Has.by (by repeat (first | exact trivial | refine ⟨by first | trivial | exact Weak.refl _ | exact Weak.tok _ _ _ | exact Weak.of_eq (congrArg (AV.int _) (by omega)) | exact Weak.nils _ _ (.inr rfl), ?_⟩))⟩
      · rintro E s' ⟨rfl, hna2, hE⟩
        rw [if_neg hna2] at hR
        refine W.has hE ?_; clear hE; refine W.seq ?_; refine W.seq ?_; refine W.regionL (by decide +kernel) rfl ?_; apply r_op; exact rfl; exact rfl; apply g_fieldAddr; exact a_fieldAddrP rfl (by decide); apply r_load; exact rfl; exact rfl; exact rfl; decide; exact rfl; assumption; exact aLoad1 rfl; apply r_op; exact rfl; exact rfl; apply g_call; exact a_len_slc rfl; apply r_op; exact rfl
        exact rfl; apply g_binOp; exact a_binI rfl rfl rfl; (with_reducible refine runs_done ?_); refine W.cond rfl (fun hc => ?_) (fun hc => ?_)
        · refine W.exit ?_
          exact ⟨x, ta, tq, hgr, hs, by rw [if_pos (by have := of_decide_eq_true hc; simp at this; omega)] at hR; exact hR, by exact Has.by (by repeat (first | exact trivial | refine ⟨by first | trivial | exact Weak.refl _ | exact Weak.tok _ _ _ | exact Weak.of_eq (congrArg (AV.int _) (by omega)) | exact Weak.nils _ _ (.inr rfl), ?_⟩))⟩
        rw [if_neg (by have := of_decide_eq_false hc; simp at this; omega)] at hR
        have hq30 : x.queue.length < 30 := by have := of_decide_eq_false hc; simp at this; omega
        clear hc; refine W.skip ?_; show W _ _ _ _ _ _ _; refine W.seq ?_; refine W.regionDK 0 [] Ty.mixed (by decide +kernel) (by decide +kernel) rfl ?_; apply r_op; exact rfl; exact rfl; apply a_move; (conv => (lhs; whnf)); apply r_op; exact rfl; exact rfl; apply a_move; (conv => (lhs; whnf)); apply r_op; exact rfl; exact rfl; apply a_move; (conv => (lhs; whnf)); apply r_op; exact rfl; exact rfl
        apply g_binOp; exact a_add64 rfl rfl (by omega); apply r_op; exact rfl; exact rfl; apply g_indexAddr; exact a_indexAddr rfl rfl (by decide) (by omega) (by exact get_bytes (by assumption)); apply r_op; exact rfl; exact rfl; apply g_load; exact a_load1 rfl rfl; apply r_op; exact rfl; exact rfl; apply g_convert; exact a_convI rfl; apply r_callP; exact rfl; exact rfl; exact rfl; exact rfl
        exact rfl; infer_instance; exact ht60; apply r_op; exact rfl; exact rfl; apply g_buildSlice; apply a_buildN; apply EvP.cons (by (conv => (lhs; whnf))); apply EvP.cons (by (conv => (lhs; whnf))); apply EvP.cons (by (conv => (lhs; whnf))); exact EvP.nil; (conv => (lhs; whnf)); exact rfl; exact rfl; decide; apply r_op; exact rfl; exact rfl; apply a_move; (conv => (lhs; whnf)); apply r_op
        exact rfl; exact rfl; apply a_move; (conv => (lhs; whnf)); apply r_op; exact rfl; exact rfl; apply g_binOp; exact a_add64 rfl rfl (by omega); apply r_op; exact rfl; exact rfl; apply g_indexAddr; exact a_indexAddr rfl rfl (by decide) (by omega) (by exact get_bytes (by assumption)); apply r_op; exact rfl; exact rfl; apply g_load; exact a_load1 rfl rfl; apply r_op; exact rfl; exact rfl
        apply g_binOp; exact a_rem rfl rfl (by omega); apply r_op; exact rfl; exact rfl; apply g_indexAddr; exact a_indexAddr rfl rfl (by decide) (by omega) (by assumption); apply r_op; exact rfl; exact rfl; apply g_load; exact a_load1 rfl rfl; apply r_op; exact rfl; exact rfl; apply g_build; apply a_build; apply EvP.cons (by (conv => (lhs; whnf))); apply EvP.cons (by (conv => (lhs; whnf)))
        apply EvP.cons (by (conv => (lhs; whnf))); exact EvP.nil
        simp only [aFill, List.getElem?_cons_zero, List.getElem?_cons_succ, AV.cells, List.length_cons, List.length_nil, AV.flat, AV.one, setL, List.set_cons_zero, List.set_cons_succ, Nat.reduceAdd, Nat.reduceLeDiff, Nat.reduceMul, and_self, if_true, ↓reduceIte, Nat.zero_add, Nat.le_refl, List.range, List.range.loop, List.map_cons, List.map_nil, Nat.zero_le]
        rfl; apply r_alloc; exact rfl; exact rfl; decide; exact rfl; (conv => (lhs; whnf)); intro b1 hb1; apply r_store; exact rfl; exact rfl; exact rfl; decide; infer_instance; exact rfl; exact setBox_same; (conv => (lhs; whnf)); exact rfl; (conv => (lhs; whnf)); exact rfl; exact of_decide_eq_true rfl; exact setL_whole rfl; refine runs_done ?_; show W _ _ _ _ _ _ _
        generalize b1 = b12 at hb1 ⊢
        have hb12 : s'.box b12 = none := hb1
        clear hb1
        have hσ12 := none_moves hs.ma hb12
        have h812 : b8 ≠ b12 := (ne_some hs.r hb12).symm
        have hx12 : bx ≠ b12 := (ne_some hs.b hb12).symm
        have h12x : b12 ≠ bx := hx12.symm
        refine W.seq ?_
        refine W.meet (fun E s => ∃ m : Msg, (m.seq = seq1 ∧ m.body.length ≤ 60 ∧ (m.attr = [] ∨ m.attr = [97, 61, 49] ∨ m.attr = [98, 61, 50]) ∧ (0 ≤ m.prio ∧ m.prio ≤ 9) ∧ m.tries = 0 ∧ m.until_ = 0 ∧ m.dead = false ∧ m.why = []) ∧ m = msgW q1 q2 seq1 ∧ s = s'.setBox b12 (msgC m) ∧ Has [(0, .slc 1 (aBytes c) t), (2, .int .i64 clock), (3, .int .i64 next), (8, .ptr b8 0), (9, .ptr bx 0), (10, .int .i64 seq1), (11, .int .i64 i), (12, .ptr b12 0)] E) ?_ ?_
        · refine W.seq ?_
          refine W.regionL (by decide +kernel) rfl ?_; apply r_op; exact rfl; exact rfl; apply a_move; (conv => (lhs; whnf)); apply r_op; exact rfl; exact rfl; apply a_move; (conv => (lhs; whnf)); apply r_op; exact rfl; exact rfl; apply g_binOp; exact a_add64 rfl rfl (by omega); apply r_op; exact rfl; exact rfl; apply g_indexAddr
          exact a_indexAddr rfl rfl (by decide) (by omega) (by exact get_bytes (by assumption)); apply r_op; exact rfl; exact rfl; apply g_load; exact a_load1 rfl rfl; apply r_op; exact rfl; exact rfl; apply g_binOp; exact a_binI rfl rfl rfl; (with_reducible refine runs_done ?_); refine W.cond rfl (fun hc => ?_) (fun hc => ?_); refine W.regionL (by decide +kernel) rfl ?_; apply r_op; exact rfl
          exact rfl; apply a_move; (conv => (lhs; whnf)); apply r_op; exact rfl; exact rfl; apply a_move; (conv => (lhs; whnf)); apply r_op; exact rfl; exact rfl; apply g_binOp; exact a_add64 rfl rfl (by omega); apply r_op; exact rfl; exact rfl; apply g_indexAddr; exact a_indexAddr rfl rfl (by decide) (by omega) (by exact get_bytes (by assumption)); apply r_op; exact rfl; exact rfl; apply g_load
          exact a_load1 rfl rfl; apply r_op; exact rfl; exact rfl; apply g_convert; exact a_convI rfl; apply r_op; exact rfl; exact rfl; apply g_binOp; exact a_rem rfl rfl (by omega); apply r_op; exact rfl; exact rfl; apply g_fieldAddr; exact a_fieldAddrP rfl (by decide); apply r_store; exact rfl; exact rfl; exact rfl; decide; infer_instance; exact rfl; exact setBox_same; (conv => (lhs; whnf))
          exact rfl; (conv => (lhs; whnf)); exact rfl; exact of_decide_eq_true rfl; exact rfl; (with_reducible refine runs_done ?_); rotate_left; refine W.skip ?_; rotate_left
          · exact ⟨⟨seq1, textL q1.toNat 60, at_, 0, 0, false, [], IntKind.i64.wrap (q2.toNat : Int) % 10⟩, ⟨rfl, hl60, hatl, by constructor <;> (show _ ≤ _; dsimp only; omega), rfl, rfl, rfl, rfl⟩, by rw [msgW, prioF, if_pos (by have := of_decide_eq_true hc; omega), hatf], by simp only [setBox_setBox]; rfl, by exact Has.by (by repeat (first | exact trivial | refine ⟨by first | trivial | exact Weak.refl _ | exact Weak.tok _ _ _ | exact Weak.of_eq (congrArg (AV.int _) (by omega)) | exact Weak.nils _ _ (.inr rfl), ?_⟩))⟩
          · exact ⟨⟨seq1, textL q1.toNat 60, at_, 0, 0, false, [], 0⟩, ⟨rfl, hl60, hatl, (show (0 : Int) ≤ 0 ∧ (0 : Int) ≤ 9 from ⟨by decide, by decide⟩), rfl, rfl, rfl, rfl⟩, by rw [msgW, prioF, if_neg (by have := of_decide_eq_false hc; omega), hatf], by simp only [setBox_setBox]; rfl, by exact Has.by (by repeat (first | exact trivial | refine ⟨by first | trivial | exact Weak.refl _ | exact Weak.tok _ _ _ | exact Weak.of_eq (congrArg (AV.int _) (by omega)) | exact Weak.nils _ _ (.inr rfl), ?_⟩))⟩
        · rintro E s2 ⟨m, ⟨ms, mb, ma, mp, mt, mu, md, mw⟩, hm0e, rfl, hE⟩
          refine W.has hE ?_; clear hE; refine W.seq ?_; refine W.meet (fun E s => ∃ m : Msg, (m.seq = seq1 ∧ MsgOk clock x.most x.lease m) ∧ m = msgF clock q1 q2 q3 seq1 x ∧ s = s'.setBox b12 (msgC m) ∧ Has [(0, .slc 1 (aBytes c) t), (2, .int .i64 clock), (3, .int .i64 next), (8, .ptr b8 0), (9, .ptr bx 0), (10, .int .i64 seq1), (11, .int .i64 i), (12, .ptr b12 0)] E) ?_ ?_
          · refine W.seq ?_
            refine W.regionL (by decide +kernel) rfl ?_; apply r_op; exact rfl; exact rfl; apply a_move; (conv => (lhs; whnf)); apply r_op; exact rfl; exact rfl; apply a_move; (conv => (lhs; whnf)); apply r_op; exact rfl; exact rfl; apply g_binOp; exact a_add64 rfl rfl (by omega); apply r_op; exact rfl; exact rfl; apply g_indexAddr
            exact a_indexAddr rfl rfl (by decide) (by omega) (by exact get_bytes (by assumption)); apply r_op; exact rfl; exact rfl; apply g_load; exact a_load1 rfl rfl; apply r_op; exact rfl; exact rfl; apply g_binOp; exact a_rem rfl rfl (by omega); (with_reducible refine runs_done ?_); refine W.block ?_; refine W.seq ?_; refine W.regionL (by decide +kernel) rfl ?_; apply r_op; exact rfl; exact rfl
            apply g_binOp; exact a_binI rfl rfl rfl; apply r_op; exact rfl; exact rfl; apply a_assign; (conv => (lhs; whnf)); (with_reducible refine runs_done ?_); refine W.cond rfl (fun hc => ?_) (fun hc => ?_); refine W.regionDK 1 [] Ty.mixed (by decide +kernel) (by decide +kernel) rfl ?_; apply r_op; exact rfl; exact rfl; apply a_move; (conv => (lhs; whnf)); apply r_op; exact rfl; exact rfl
            apply a_move; (conv => (lhs; whnf)); apply r_op; exact rfl; exact rfl; apply g_binOp; exact a_add64 rfl rfl (by omega); apply r_op; exact rfl; exact rfl; apply g_indexAddr; exact a_indexAddr rfl rfl (by decide) (by omega) (by exact get_bytes (by assumption)); apply r_op; exact rfl; exact rfl; apply g_load; exact a_load1 rfl rfl; apply r_op; exact rfl; exact rfl; apply g_convert
            exact a_convI rfl; apply r_op; exact rfl; exact rfl; apply g_fieldAddr; exact a_fieldAddrP rfl (by decide); apply r_load; exact rfl; exact rfl; exact rfl; decide; exact rfl; apply hb_ne (by assumption); assumption; exact aLoad1 rfl; apply r_op; exact rfl; exact rfl; apply g_binOp; exact a_rem rfl rfl (by omega); apply r_op; exact rfl; exact rfl; apply g_fieldAddr
            exact a_fieldAddrP rfl (by decide); apply r_store; exact rfl; exact rfl; exact rfl; decide; infer_instance; exact rfl; exact setBox_same; (conv => (lhs; whnf)); exact rfl; (conv => (lhs; whnf)); exact rfl; exact of_decide_eq_true rfl; exact rfl; (with_reducible refine runs_done ?_); rotate_left; refine W.seq ?_; refine W.regionL (by decide +kernel) rfl ?_; apply r_op; exact rfl; exact rfl
            apply g_binOp; exact a_binI rfl rfl rfl; apply r_op; exact rfl; exact rfl; apply a_assign; (conv => (lhs; whnf)); (with_reducible refine runs_done ?_); refine W.cond rfl (fun hc => ?_) (fun hc => ?_); refine W.seq ?_; refine W.regionDK 1 [] Ty.mixed (by decide +kernel) (by decide +kernel) rfl ?_; apply r_op; exact rfl; exact rfl; apply a_move; (conv => (lhs; whnf)); apply r_op; exact rfl
            exact rfl; apply a_move; (conv => (lhs; whnf)); apply r_op; exact rfl; exact rfl; apply g_binOp; exact a_add64 rfl rfl (by omega); apply r_op; exact rfl; exact rfl; apply g_indexAddr; exact a_indexAddr rfl rfl (by decide) (by omega) (by exact get_bytes (by assumption)); apply r_op; exact rfl; exact rfl; apply g_load; exact a_load1 rfl rfl; apply r_op; exact rfl; exact rfl
            apply g_convert; exact a_convI rfl; apply r_op; exact rfl; exact rfl; apply g_fieldAddr; exact a_fieldAddrP rfl (by decide); apply r_load; exact rfl; exact rfl; exact rfl; decide; exact rfl; apply hb_ne (by assumption); assumption; exact aLoad1 rfl; apply r_op; exact rfl; exact rfl; apply g_binOp; exact a_rem rfl rfl (by omega); apply r_op; exact rfl; exact rfl; apply g_binOp
            exact a_add64 rfl rfl (by omega); apply r_op; exact rfl; exact rfl; apply g_fieldAddr; exact a_fieldAddrP rfl (by decide); apply r_store; exact rfl; exact rfl; exact rfl; decide; infer_instance; exact rfl; exact setBox_same; (conv => (lhs; whnf)); exact rfl; (conv => (lhs; whnf)); exact rfl; exact of_decide_eq_true rfl; exact rfl; (with_reducible refine runs_done ?_)
            refine W.regionDK 1 [] Ty.mixed (by decide +kernel) (by decide +kernel) rfl ?_; apply r_op; exact rfl; exact rfl; apply a_move; (conv => (lhs; whnf)); apply r_op; exact rfl; exact rfl; apply g_binOp; exact a_add64 rfl rfl (by omega); apply r_op; exact rfl; exact rfl; apply a_move; (conv => (lhs; whnf)); apply r_op; exact rfl; exact rfl; apply a_move; (conv => (lhs; whnf)); apply r_op
            exact rfl; exact rfl; apply g_binOp; exact a_add64 rfl rfl (by omega); apply r_op; exact rfl; exact rfl; apply g_indexAddr; exact a_indexAddr rfl rfl (by decide) (by omega) (by exact get_bytes (by assumption)); apply r_op; exact rfl; exact rfl; apply g_load; exact a_load1 rfl rfl; apply r_op; exact rfl; exact rfl; apply g_convert; exact a_convI rfl; apply r_op; exact rfl; exact rfl
            apply g_fieldAddr; exact a_fieldAddrP rfl (by decide); apply r_load; exact rfl; exact rfl; exact rfl; decide; exact rfl; apply hb_ne (by assumption); apply hb_ne (by assumption); assumption; exact aLoad1 rfl; apply r_op; exact rfl; exact rfl; apply g_binOp; exact a_rem rfl rfl (by omega); apply r_op; exact rfl; exact rfl; apply g_binOp; exact a_add64 rfl rfl (by omega); apply r_op
            exact rfl; exact rfl; apply g_fieldAddr; exact a_fieldAddrP rfl (by decide); apply r_store; exact rfl; exact rfl; exact rfl; decide; infer_instance; exact rfl; exact setBox_same; (conv => (lhs; whnf)); exact rfl; (conv => (lhs; whnf)); exact rfl; exact of_decide_eq_true rfl; exact rfl; (with_reducible refine runs_done ?_); rotate_left; refine W.seq ?_
            refine W.regionL (by decide +kernel) rfl ?_; apply r_op; exact rfl; exact rfl; apply g_binOp; exact a_binI rfl rfl rfl; apply r_op; exact rfl; exact rfl; apply a_assign; (conv => (lhs; whnf)); (with_reducible refine runs_done ?_); refine W.cond rfl (fun hc => ?_) (fun hc => ?_); refine W.seq ?_; refine W.regionL (by decide +kernel) rfl ?_; apply r_op; exact rfl; exact rfl
            apply g_fieldAddr; exact a_fieldAddrP rfl (by decide); apply r_store; exact rfl; exact rfl; exact rfl; decide; infer_instance; exact rfl; exact setBox_same; (conv => (lhs; whnf)); exact rfl; (conv => (lhs; whnf)); exact rfl; exact of_decide_eq_true rfl; exact rfl; (with_reducible refine runs_done ?_); refine W.seq ?_; refine W.regionL (by decide +kernel) rfl ?_; apply r_op; exact rfl
            exact rfl; apply g_fieldAddr; exact a_fieldAddrP rfl (by decide); apply r_load; exact rfl; exact rfl; exact rfl; decide; exact rfl; apply hb_ne (by assumption); apply hb_ne (by assumption); assumption; exact aLoad1 rfl; apply r_op; exact rfl; exact rfl; apply g_fieldAddr; exact a_fieldAddrP rfl (by decide); apply r_store; exact rfl; exact rfl; exact rfl; decide; infer_instance
            exact rfl; exact setBox_same; (conv => (lhs; whnf)); exact rfl; (conv => (lhs; whnf)); exact rfl; exact of_decide_eq_true rfl; exact rfl; (with_reducible refine runs_done ?_); refine W.regionL (by decide +kernel) rfl ?_; apply r_op; exact rfl; exact rfl; apply g_buildSlice; apply a_buildN; apply EvP.cons (by (conv => (lhs; whnf))); apply EvP.cons (by (conv => (lhs; whnf))); exact EvP.nil
            (conv => (lhs; whnf)); exact rfl; exact rfl; decide; apply r_op; exact rfl; exact rfl; apply a_move; (conv => (lhs; whnf)); apply r_op; exact rfl; exact rfl; apply a_move; (conv => (lhs; whnf)); apply r_op; exact rfl; exact rfl; apply g_binOp; exact a_add64 rfl rfl (by omega); apply r_op; exact rfl; exact rfl; apply g_indexAddr
            exact a_indexAddr rfl rfl (by decide) (by omega) (by exact get_bytes (by assumption)); apply r_op; exact rfl; exact rfl; apply g_load; exact a_load1 rfl rfl; apply r_op; exact rfl; exact rfl; apply g_binOp; exact a_rem rfl rfl (by omega); apply r_op; exact rfl; exact rfl; apply g_indexAddr; exact a_indexAddr rfl rfl (by decide) (by omega) (by assumption); apply r_op; exact rfl
            exact rfl; apply g_load; exact a_load1 rfl rfl; apply r_op; exact rfl; exact rfl; apply g_fieldAddr; exact a_fieldAddrP rfl (by decide); apply r_store; exact rfl; exact rfl; exact rfl; decide; infer_instance; exact rfl; exact setBox_same; (conv => (lhs; whnf)); exact rfl; (conv => (lhs; whnf)); exact rfl; exact of_decide_eq_true rfl; exact rfl; (with_reducible refine runs_done ?_)
            rotate_left; refine W.skip ?_; rotate_left
            · exact ⟨{ m with tries := IntKind.i64.wrap (q3.toNat : Int) % x.most }, ⟨ms, mb, ma, mp, .inl ⟨md, mw, mu, hmm, hmm2⟩⟩, by rw [hm0e, msgF, show q3.toNat % 4 = 0 from by simp only [decide_eq_true_eq, decide_eq_false_iff_not] at *; omega]; rfl, by simp only [setBox_setBox]; rfl, by exact Has.by (by repeat (first | exact trivial | refine ⟨by first | trivial | exact Weak.refl _ | exact Weak.tok _ _ _ | exact Weak.of_eq (congrArg (AV.int _) (by omega)) | exact Weak.nils _ _ (.inr rfl), ?_⟩))⟩
            · exact ⟨{ m with tries := 1 + IntKind.i64.wrap (q3.toNat : Int) % x.most, until_ := (clock : Int) + 1 + IntKind.i64.wrap (q1.toNat : Int) % x.lease }, ⟨ms, mb, ma, mp, .inr (.inl ⟨md, mw, by constructor <;> (dsimp only; omega), by constructor <;> (dsimp only; omega)⟩)⟩, by rw [hm0e, msgF, show q3.toNat % 4 = 1 from by simp only [decide_eq_true_eq, decide_eq_false_iff_not] at *; omega]; rfl, by simp only [setBox_setBox]; rfl, by exact Has.by (by repeat (first | exact trivial | refine ⟨by first | trivial | exact Weak.refl _ | exact Weak.tok _ _ _ | exact Weak.of_eq (congrArg (AV.int _) (by omega)) | exact Weak.nils _ _ (.inr rfl), ?_⟩))⟩
            · exact ⟨{ m with dead := true, tries := x.most, why := wy }, ⟨ms, mb, ma, mp, .inr (.inr ⟨rfl, mu, rfl, hwyl⟩)⟩, by rw [hm0e, msgF, show q3.toNat % 4 = 2 from by simp only [decide_eq_true_eq, decide_eq_false_iff_not] at *; omega]; rw [hwyf]; rfl, by simp only [setBox_setBox]; rfl, by exact Has.by (by repeat (first | exact trivial | refine ⟨by first | trivial | exact Weak.refl _ | exact Weak.tok _ _ _ | exact Weak.of_eq (congrArg (AV.int _) (by omega)) | exact Weak.nils _ _ (.inr rfl), ?_⟩))⟩
            · exact ⟨m, ⟨ms, mb, ma, mp, .inl ⟨md, mw, mu, by omega, by omega⟩⟩, by rw [hm0e, msgF, show q3.toNat % 4 = 3 from by simp only [decide_eq_true_eq, decide_eq_false_iff_not] at *; omega]; rfl, rfl, by exact Has.by (by repeat (first | exact trivial | refine ⟨by first | trivial | exact Weak.refl _ | exact Weak.tok _ _ _ | exact Weak.of_eq (congrArg (AV.int _) (by omega)) | exact Weak.nils _ _ (.inr rfl), ?_⟩))⟩
          · rintro E s3 ⟨m, ⟨ms, hma⟩, hmf, rfl, hE⟩
            refine W.has hE ?_; clear hE
            have hs3 := hs.other (cs := msgC m) h812 hx12 hσ12
            have hb3 := hs3.b
            have hm0 := Moves.refl hs3.mq.room
            refine W.regionL (by decide +kernel) rfl ?_; apply r_op; exact rfl; exact rfl; apply g_fieldAddr; exact a_fieldAddrP rfl (by decide); apply r_load; exact rfl; exact rfl; exact rfl; decide; exact rfl; assumption; exact aLoad1 rfl; apply r_load; exact rfl; exact rfl; exact rfl; decide; exact rfl; exact setBox_same; exact aLoadA rfl (by rfl) rfl; apply r_op; exact rfl; exact rfl
            apply g_buildSlice; apply a_build1; (conv => (lhs; whnf)); exact rfl; exact rfl; decide; apply r_append'; exact rfl; exact rfl; decide; infer_instance; exact rfl; exact rfl; exact rfl; exact rfl; exact rfl; assumption
            simp only [length_aBytes, List.length_append, List.length_cons, List.length_nil, List.length_map, List.length_range]
            omega; intro tk1 σ1 hm; apply r_op; exact rfl; exact rfl; apply g_fieldAddr; exact a_fieldAddrP rfl (by decide); apply r_store; exact rfl; exact rfl; exact rfl; decide; infer_instance; exact rfl; apply hb_moves (by assumption); assumption; (conv => (lhs; whnf)); exact rfl; (conv => (lhs; whnf)); exact rfl; exact of_decide_eq_true rfl; exact rfl; (with_reducible refine runs_done ?_)
            refine W.regionL (by decide +kernel) rfl ?_; apply r_op; exact rfl; exact rfl; apply a_move; (conv => (lhs; whnf)); apply r_op; exact rfl; exact rfl; apply g_binOp; exact a_add64 rfl rfl (by omega); apply r_op; exact rfl; exact rfl; apply a_assign; (conv => (lhs; whnf)); (with_reducible refine runs_done ?_)
            have h9 := hs3.queue (x' := { x with queue := x.queue ++ [m] }) hne hbx hm
            simp only [subC, List.map_append, List.map_cons, List.map_nil] at h9
            obtain ⟨k1, k2⟩ := hgr.msg hup (by rw [ms]; exact hsq1) (by rw [ms]; exact hsq) hq30 hma
            rw [ms] at k2
            exact ⟨100 - (i + 4), by omega, i + 4, seq1, { x with queue := x.queue ++ [m] }, ta, tk1, rfl, by omega, by omega, hsq0, hsq, k1, k2, h9, ⟨n, by omega, by rw [hmf]; exact hR⟩, by exact Has.by (by repeat (first | exact trivial | refine ⟨by first | trivial | exact Weak.refl _ | exact Weak.tok _ _ _ | exact Weak.of_eq (congrArg (AV.int _) (by omega)) | exact Weak.nils _ _ (.inr rfl), ?_⟩))⟩
    · rintro E s ⟨x, ta, tq, hgr, hs, hxe, hE⟩
      refine W.has hE ?_; clear hE
      have hb := hs.b
      have hr := hs.r
      refine W.seq ?_; refine W.regionL (by decide +kernel) rfl ?_; apply r_load; exact rfl; exact rfl; exact rfl; decide; exact rfl; assumption; exact aLoadA rfl (by rfl) rfl; apply r_store; exact rfl; exact rfl; exact rfl; decide; infer_instance; exact rfl; assumption; (conv => (lhs; whnf)); exact rfl; (conv => (lhs; whnf)); exact rfl; exact of_decide_eq_true rfl; exact setL_whole rfl
      (with_reducible refine runs_done ?_); refine W.ret ?_; show Q Exit.ret _ _; refine post_le (σ' := σ) hQ (by apply res_cell; exact rfl; exact setBox_same; exact aLoadA rfl (by rfl) rfl; exact res_nil) rfl (weak_sub x ta tq) (le_setBox hs.ma.le hb8) ?_ (.inl rfl)
      exact ⟨x, rfl, hgr, hxe, rfl⟩
theorem sub_any (w0 : Base) (c : List UInt8) (t : Tok) (id clock next : Nat) (hc : c.length ≤ 9223372036854775807) (hid : id ≤ 1000) (hclock : clock ≤ 100000000) (hnext : 1 ≤ next ∧ next ≤ 100000) (σ : St) :
    CallW Tryz.prog w0 12 [.slc 1 (aBytes c) t, .int .i64 id, .int .i64 clock, .int .i64 next] σ (fun r s => ∃ x, r = eSub x ∧ Grown id clock next x ∧ s = σ) :=
  (sub_any2 w0 c t id clock next hc hid hclock hnext σ).mono fun r s ⟨x, h1, h2, _, h3⟩ => ⟨x, h1, h2, h3⟩
end Go.Proofs.YtgliemhhnkhboaaGreatDoor
end
section
set_option linter.unusedVariables false
set_option linter.unusedSimpArgs false
set_option maxRecDepth 100000
set_option maxHeartbeats 2000000
namespace Go.Proofs.YtgliemhhnkhboaaGreatDoor
open Go.Al Go.RowKit
theorem refWithout_any (w0 : Base) (s : Stt) (id : Int) (hf : Fine s.subs) : CallP Tryz.prog w0 41 [eStt s, .int .i64 id] (eStt { s with subs := wo s.subs id }) := by
  refine CallP.h Ty.tok Ty.mixed Tryz.func41 rfl Tryz.ntmps41 rfl (by simp) (by decide +kernel) fun σ => ?_
  obtain ⟨clock, next, last, l⟩ := s
  dsimp only at hf ⊢
  have hn := hf.n
  (conv => whnf); refine Hid.seq ?_; refine Hid.reg ?_; (conv => whnf); refine SBox.b rfl ?_; (conv => whnf); intro b2 hb2; (conv => whnf); intro b4 hb4; (conv => whnf); refine Hid.seq ?_; refine Hid.reg ?_; (conv => whnf); refine Hid.seq ?_; refine Hid.seq ?_; refine Hid.reg ?_; (conv => whnf); refine Hid.block ?_; refine Hid.loop ?_
  have h4 := le_none (le_new (.refl _) hb2) hb4
  have hle0 : St.Le σ ((σ.setBox b2 [.int .i64 clock, .int .i64 next, .int .i64 last, eSubs l]).setBox b4 [.int .i64 0, .int .i64 0, .int .i64 0, .nils]) := le_setBox (le_setBox (.refl _) hb2) h4
  refine SLoop.by Ty.mixed (fun ((i, tk) : Nat × Tok) => l.length - i) (fun (i, tk) => [(1, .int .i64 id), (2, .ptr b2 0), (4, .ptr b4 0), (5, .slc 10 (wr l id i) tk), (6, .int .i64 i)]) (fun _ => [(b4, [.int .i64 0, .int .i64 0, .int .i64 0, .nils]), (b2, [.int .i64 clock, .int .i64 next, .int .i64 last, eSubs l])])
    (fun (i, tk) τ => i ≤ l.length ∧ Moves ((σ.setBox b2 [.int .i64 clock, .int .i64 next, .int .i64 last, eSubs l]).setBox b4 [.int .i64 0, .int .i64 0, .int .i64 0, .nils]) .full τ tk) (0, .full) ⟨by repeat (first | exact trivial | refine ⟨by first | trivial | exact Weak.refl _ | exact Weak.tok _ _ _ | exact Weak.of_eq (congrArg (AV.int _) (by omega)) | exact Weak.of_eq (congrArg AV.bool (by fail)) | exact Weak.nils _ _ (.inr rfl), ?_⟩), .refl _, Nat.zero_le _, .full _⟩ ?_
  rintro ⟨i, tk⟩ τ ⟨hi, hm⟩
  have hml : (l.map eSub).length = l.length := by simp
  by_cases hlt : i < l.length
  · have ga : (l.map eSub)[i]? = some (eSub l[i]) := by simp [hlt]
    have hwo := wo_take id (List.getElem?_eq_getElem hlt)
    have hwl : (wr l id i).length ≤ 977343669120 := by
      have h1 := wo_len (l.take i) id
      have h2 := List.length_take_le i l
      rw [wr, List.length_map]; omega
    generalize l[i] = x at *
    have e1 : ¬ x.id = id → wr l id (i + 1) = wr l id i ++ [eSub x] := fun h => by rw [wr, hwo, if_neg h, List.map_append]; rfl
    have e2 : x.id = id → wr l id (i + 1) = wr l id i := fun h => by rw [wr, hwo, if_pos h]; rfl
    refine Xc_h ?_; (conv => whnf); refine Hid.seq ?_; refine Hid.seq ?_; refine Hid.reg ?_; (conv => whnf); refine SLoad.on 1 rfl ?_; (conv => whnf); refine Hid.cond rfl ?_; refine SIf.y Ty.mixed (decide_eq_true (by rw [hml]; omega)) ?_; refine Xc_h ?_; (conv => whnf); refine Hid.skip ?_; (conv => whnf); refine Hid.seq ?_; refine Hid.seq ?_; refine Hid.reg ?_; (conv => whnf)
    refine SLoad.on 1 rfl ?_; (conv => whnf)
    refine ⟨_, ⟨by first | omega | (rw [hml]; omega) | (simp only [hml]; omega) | fail, by exact ga⟩, ?_⟩
    (conv => whnf); refine Hid.cond rfl ?_
    by_cases he : x.id = id
    · refine SIf.n Ty.mixed (by simp [he]) ?_
      refine Xc_h ?_; (conv => whnf); refine Hid.skip ?_; (conv => whnf); refine Hid.reg ?_; (conv => whnf); refine ⟨_, IntWalk.i64_in _ (by omega), ?_⟩; (conv => whnf)
      exact ⟨(i + 1, tk), by show l.length - (i + 1) < l.length - i; omega, by show xWeak [(1, .int .i64 id), (2, .ptr b2 0), (4, .ptr b4 0), (5, .slc 10 (wr l id (i + 1)) tk), (6, .int .i64 (i + 1 : Nat))] _; rw [e2 he]; repeat (first | exact trivial | refine ⟨by first | trivial | exact Weak.refl _ | exact Weak.tok _ _ _ | exact Weak.of_eq (congrArg (AV.int _) (by omega)) | exact Weak.of_eq (congrArg AV.bool (by fail)) | exact Weak.nils _ _ (.inr rfl), ?_⟩), .refl _, hlt, hm⟩
    · refine SIf.y Ty.mixed (by simp [he]) ?_
      refine Xc_h ?_; (conv => whnf); refine Hid.reg ?_; (conv => whnf); refine SLoad.on 1 rfl ?_; (conv => whnf)
      refine ⟨_, ⟨by first | omega | (rw [hml]; omega) | (simp only [hml]; omega) | fail, by exact ga⟩, ?_⟩
      (conv => whnf)
      refine SApp.c rfl rfl (by assumption) (by simp only [List.length_cons, List.length_nil]; omega) fun tk1 σ1 hm => ?_
      (conv => whnf); refine Hid.reg ?_; (conv => whnf); refine ⟨_, IntWalk.i64_in _ (by omega), ?_⟩; (conv => whnf)
      exact ⟨(i + 1, tk1), by show l.length - (i + 1) < l.length - i; omega, by show xWeak [(1, .int .i64 id), (2, .ptr b2 0), (4, .ptr b4 0), (5, .slc 10 (wr l id (i + 1)) tk1), (6, .int .i64 (i + 1 : Nat))] _; rw [e1 he]; repeat (first | exact trivial | refine ⟨by first | trivial | exact Weak.refl _ | exact Weak.tok _ _ _ | exact Weak.of_eq (congrArg (AV.int _) (by omega)) | exact Weak.of_eq (congrArg AV.bool (by fail)) | exact Weak.nils _ _ (.inr rfl), ?_⟩), .refl _, hlt, by assumption⟩
  · have hge : i = l.length := by omega
    subst hge
    refine Xc_h ?_; (conv => whnf); refine Hid.seq ?_; refine Hid.seq ?_; refine Hid.reg ?_; (conv => whnf); refine SLoad.on 1 rfl ?_; (conv => whnf); refine Hid.cond rfl ?_; refine SIf.n Ty.mixed (decide_eq_false (by rw [hml]; omega)) ?_; refine Xc_h ?_; (conv => whnf); refine Hid.exit ?_; (conv => whnf); refine Hid.seq ?_; refine Hid.reg ?_; (conv => whnf); refine SStore.on 1 rfl ?_
    (conv => whnf); refine Hid.seq ?_; refine Hid.reg ?_; (conv => whnf); refine SLoad.on 1 rfl ?_; (conv => whnf); refine SStore.on 0 rfl ?_; (conv => whnf); refine Hid.ret ?_; (conv => whnf); refine SLoad.on 0 rfl ?_; (conv => whnf); refine .v (le_setBox (le_setBox (hle0.trans hm.le) hb2) h4) ?_
    rw [eStt, eSubs, wr_all]
    exact .agg (.cons (.refl _) (.cons (.refl _) (.cons (.refl _) (.cons (.tok _ _ _) .nil)))) (by simp [AV.one])
def laidR (x : Sub) (l : List Sub) : Nat → List Sub × Bool
  | 0 => ([], false)
  | i + 1 => match laidR x l i, l[i]? with
    | (r, b), some y => if b = false ∧ x.id < y.id then (r ++ [x, y], true) else (r ++ [y], b)
    | p, none => p
def laidA (x : Sub) (l : List Sub) (i : Nat) : List AV := (laidR x l i).1.map eSub
theorem laidR_ref (x : Sub) (l : List Sub) : ∀ i, i ≤ l.length → (laidR x l i).1 ++ refPut x (l.drop i) (laidR x l i).2 = refPut x l false
  | 0, _ => rfl
  | i + 1, h => by
    have ih := laidR_ref x l i (by omega)
    have hlt : i < l.length := by omega
    rw [List.drop_eq_getElem_cons hlt, refPut] at ih
    rw [← ih, laidR, List.getElem?_eq_getElem hlt]
    generalize laidR x l i = p at *
    obtain ⟨r, b⟩ := p
    dsimp only
    by_cases hc : b = false ∧ x.id < (l[i]).id
    · rw [if_pos hc, if_pos hc]; simp
    · rw [if_neg hc, if_neg hc]; simp
theorem laidR_len (x : Sub) (l : List Sub) : ∀ i, (laidR x l i).1.length ≤ i + 1 ∧ ((laidR x l i).2 = false → (laidR x l i).1.length ≤ i)
  | 0 => ⟨by simp [laidR], fun _ => by simp [laidR]⟩
  | i + 1 => by
    obtain ⟨h1, h2⟩ := laidR_len x l i
    rw [laidR]
    split
    · rename_i r b y e1 e2
      rw [e1] at h1 h2
      dsimp only at h1 h2
      split
      · rename_i hc
        have := h2 hc.1
        exact ⟨by simp; omega, fun h => by cases h⟩
      · exact ⟨by simp; omega, fun h => by have := h2 h; simp; omega⟩
    · exact ⟨by omega, fun h => by have := h2 h; omega⟩
theorem refPut_any (w0 : Base) (s : Stt) (x : Sub) (hf : Fine s.subs) (hxa : x.acks.length ≤ 17592186043904) (hxq : x.queue.length ≤ 1599289640354) : CallP Tryz.prog w0 25 [eStt s, eSub x] (eStt { s with subs := putS s.subs x }) := by
  refine CallP.h Ty.tok Ty.mixed Tryz.func25 rfl Tryz.ntmps25 rfl (by simp) (by decide +kernel) fun σ => ?_
  have hwo := refWithout_any w0 s x.id hf
  have hput := putS_ref s.subs x
  have hwf := hf.wo x.id
  obtain ⟨clock, next, last, l⟩ := s
  dsimp only at hf hwo hput hwf ⊢
  rw [hput]
  generalize wo l x.id = wl at *
  have hn := hwf.n
  (conv => whnf); refine Hid.seq ?_; refine Hid.reg ?_; (conv => whnf); refine SBox.b rfl ?_; (conv => whnf); intro b2 hb2; refine SBox.f ?_; (conv => whnf); intro b4 hb4; (conv => whnf); refine Hid.seq ?_; refine Hid.reg ?_; (conv => whnf); refine SLoad.on 1 rfl ?_; (conv => whnf); refine SCall.p (by exact hwo) ?_; (conv => whnf); intro b5 hb5; (conv => whnf); refine SStore.on 0 rfl ?_
  (conv => whnf); refine Hid.seq ?_; refine Hid.reg ?_; (conv => whnf); refine Hid.seq ?_; refine Hid.reg ?_; (conv => whnf); refine Hid.seq ?_; refine Hid.seq ?_; refine Hid.reg ?_; (conv => whnf); refine Hid.block ?_; refine Hid.loop ?_
  have h4 := le_none (le_new (.refl _) hb2) hb4
  have h5 := le_none (le_new (le_new (.refl _) hb2) hb4) hb5
  have hle0 : St.Le σ (((σ.setBox b2 [.int .i64 clock, .int .i64 next, .int .i64 last, eSubs l]).setBox b4 [.int .i64 0, .int .i64 0, .int .i64 0, .nils]).setBox b5 [.int .i64 clock, .int .i64 next, .int .i64 last, eSubs wl]) := le_setBox (le_setBox (le_setBox (.refl _) hb2) h4) h5
  rw [setBox_setBox]
  refine SLoop.by Ty.mixed (fun ((i, tk) : Nat × Tok) => wl.length - i) (fun (i, tk) => [(2, .ptr b2 0), (3, .vp (eSub x)), (4, .ptr b4 0), (5, .ptr b5 0), (6, .slc 10 (laidA x wl i) tk), (7, .bool (laidR x wl i).2), (8, .int .i64 i)]) (fun _ => [(b5, [.int .i64 clock, .int .i64 next, .int .i64 last, eSubs wl]), (b4, [.int .i64 0, .int .i64 0, .int .i64 0, .nils]), (b2, [.int .i64 clock, .int .i64 next, .int .i64 last, eSubs l])])
    (fun (i, tk) τ => i ≤ wl.length ∧ Moves (((σ.setBox b2 [.int .i64 clock, .int .i64 next, .int .i64 last, eSubs l]).setBox b4 [.int .i64 0, .int .i64 0, .int .i64 0, .nils]).setBox b5 [.int .i64 clock, .int .i64 next, .int .i64 last, eSubs wl]) .full τ tk) (0, .full) ⟨by repeat (first | exact trivial | refine ⟨by first | trivial | exact Weak.refl _ | exact Weak.tok _ _ _ | exact Weak.of_eq (congrArg (AV.int _) (by omega)) | exact Weak.of_eq (congrArg AV.bool (by fail)) | exact Weak.nils _ _ (.inr rfl), ?_⟩), .refl _, Nat.zero_le _, .full _⟩ ?_
  rintro ⟨i, tk⟩ τ ⟨hi, hm⟩
  have hml : (wl.map eSub).length = wl.length := by simp
  have hll := laidR_len x wl i
  have hlA : (laidA x wl i).length ≤ 977343669121 := by rw [laidA, List.length_map]; omega
  by_cases hlt : i < wl.length
  · have ga : (wl.map eSub)[i]? = some (eSub wl[i]) := by simp [hlt]
    have hst : laidR x wl (i + 1) = if (laidR x wl i).2 = false ∧ x.id < (wl[i]).id then ((laidR x wl i).1 ++ [x, wl[i]], true) else ((laidR x wl i).1 ++ [wl[i]], (laidR x wl i).2) := by
      rw [laidR, List.getElem?_eq_getElem hlt]
    generalize wl[i] = y at *
    by_cases hc : (laidR x wl i).2 = false ∧ x.id < y.id
    · rw [if_pos hc] at hst
      have hc1 := hc.1
      have hc2 : decide (x.id < y.id) = true := decide_eq_true hc.2
      have e1 : laidA x wl (i + 1) = laidA x wl i ++ [eSub x] ++ [eSub y] := by rw [laidA, hst]; simp [laidA]
      have e2 : (laidR x wl (i + 1)).2 = true := by rw [hst]
      have hnb : (!(laidR x wl i).2) = true := by rw [hc1]; rfl
      refine Xc_h ?_; (conv => whnf); refine Hid.seq ?_; refine Hid.seq ?_; refine Hid.reg ?_; (conv => whnf); refine SLoad.on 0 rfl ?_; (conv => whnf); refine Hid.cond rfl ?_; refine SIf.y Ty.mixed (decide_eq_true (by rw [hml]; omega)) ?_; refine Xc_h ?_; (conv => whnf); refine Hid.skip ?_; (conv => whnf); refine Hid.seq ?_; refine Hid.seq ?_; refine Hid.seq ?_; refine Hid.regD ?_
      refine SReg.t 1 [] (by decide +kernel) ?_; (conv => whnf); refine SCond.y (by assumption) ?_; (conv => whnf); refine SCond.y (by assumption) ?_; (conv => whnf); refine SLoad.on 0 rfl ?_; (conv => whnf); refine SCond.y (by assumption) ?_; (conv => whnf); refine SCond.y (by assumption) ?_; (conv => whnf)
      refine ⟨_, ⟨by first | omega | (rw [hml]; omega) | (simp only [hml]; omega) | fail, by exact ga⟩, ?_⟩
      (conv => whnf); refine SCond.y (by assumption) ?_; (conv => whnf); refine SCond.y (by assumption) ?_; (conv => whnf); refine SCond.y (by assumption) ?_; (conv => whnf); refine SCond.y (by assumption) ?_; (conv => whnf); refine SCond.y (by assumption) ?_; (conv => whnf); refine SPick.y (by assumption) ?_; (conv => whnf); refine Hid.cond rfl ?_; refine SIf.y Ty.mixed (by assumption) ?_
      refine Xc_h ?_; (conv => whnf); refine Hid.seq ?_; refine Hid.reg ?_; (conv => whnf)
      refine SApp.c rfl rfl (by assumption) (by simp only [List.length_append, List.length_cons, List.length_nil]; omega) fun tk1 σ1 hm => ?_
      (conv => whnf); refine Hid.reg ?_; (conv => whnf); refine Hid.reg ?_; (conv => whnf); refine SLoad.on 0 rfl ?_; (conv => whnf)
      refine ⟨_, ⟨by first | omega | (rw [hml]; omega) | (simp only [hml]; omega) | fail, by exact ga⟩, ?_⟩
      (conv => whnf)
      refine SApp.c rfl rfl (by assumption) (by simp only [List.length_append, List.length_cons, List.length_nil]; omega) fun tk1 σ1 hm => ?_
      (conv => whnf); refine Hid.reg ?_; (conv => whnf); refine ⟨_, IntWalk.i64_in _ (by omega), ?_⟩; (conv => whnf)
      exact ⟨(i + 1, tk1), by show wl.length - (i + 1) < wl.length - i; omega, by show xWeak [(2, .ptr b2 0), (3, .vp (eSub x)), (4, .ptr b4 0), (5, .ptr b5 0), (6, .slc 10 (laidA x wl (i + 1)) tk1), (7, .bool (laidR x wl (i + 1)).2), (8, .int .i64 (i + 1 : Nat))] _; rw [e1, e2]; repeat (first | exact trivial | refine ⟨by first | trivial | exact Weak.refl _ | exact Weak.tok _ _ _ | exact Weak.of_eq (congrArg (AV.int _) (by omega)) | exact Weak.of_eq (congrArg AV.bool (by fail)) | exact Weak.nils _ _ (.inr rfl), ?_⟩), .refl _, hlt, by assumption⟩
    · rw [if_neg hc] at hst
      have e1 : laidA x wl (i + 1) = laidA x wl i ++ [eSub y] := by rw [laidA, hst]; simp [laidA]
      have e2 : (laidR x wl (i + 1)).2 = (laidR x wl i).2 := by rw [hst]
      cases hb : (laidR x wl i).2 with
      | true =>
        have hnb : (!(laidR x wl i).2) = false := by rw [hb]; rfl
        refine Xc_h ?_; (conv => whnf); refine Hid.seq ?_; refine Hid.seq ?_; refine Hid.reg ?_; (conv => whnf); refine SLoad.on 0 rfl ?_; (conv => whnf); refine Hid.cond rfl ?_; refine SIf.y Ty.mixed (decide_eq_true (by rw [hml]; omega)) ?_; refine Xc_h ?_; (conv => whnf); refine Hid.skip ?_; (conv => whnf); refine Hid.seq ?_; refine Hid.seq ?_; refine Hid.seq ?_; refine Hid.regD ?_
        refine SReg.t 1 [] (by decide +kernel) ?_; (conv => whnf); refine SCond.n (by assumption) ?_; (conv => whnf); refine SCond.n (by assumption) ?_; (conv => whnf); refine SCond.n (by assumption) ?_; (conv => whnf); refine SCond.n (by assumption) ?_; (conv => whnf); refine SCond.n (by assumption) ?_; (conv => whnf); refine SCond.n (by assumption) ?_; (conv => whnf)
        refine SCond.n (by assumption) ?_; (conv => whnf); refine SCond.n (by assumption) ?_; (conv => whnf); refine SCond.n (by assumption) ?_; (conv => whnf); refine SPick.n (by assumption) ?_; (conv => whnf); refine Hid.cond rfl ?_; refine SIf.n Ty.mixed (by exact rfl) ?_; refine Xc_h ?_; (conv => whnf); refine Hid.skip ?_; (conv => whnf); refine Hid.reg ?_; (conv => whnf)
        refine SLoad.on 0 rfl ?_; (conv => whnf)
        refine ⟨_, ⟨by first | omega | (rw [hml]; omega) | (simp only [hml]; omega) | fail, by exact ga⟩, ?_⟩
        (conv => whnf)
        refine SApp.c rfl rfl (by assumption) (by simp only [List.length_append, List.length_cons, List.length_nil]; omega) fun tk1 σ1 hm => ?_
        (conv => whnf); refine Hid.reg ?_; (conv => whnf); refine ⟨_, IntWalk.i64_in _ (by omega), ?_⟩; (conv => whnf)
        exact ⟨(i + 1, tk1), by show wl.length - (i + 1) < wl.length - i; omega, by show xWeak [(2, .ptr b2 0), (3, .vp (eSub x)), (4, .ptr b4 0), (5, .ptr b5 0), (6, .slc 10 (laidA x wl (i + 1)) tk1), (7, .bool (laidR x wl (i + 1)).2), (8, .int .i64 (i + 1 : Nat))] _; rw [e1, e2]; repeat (first | exact trivial | refine ⟨by first | trivial | exact Weak.refl _ | exact Weak.tok _ _ _ | exact Weak.of_eq (congrArg (AV.int _) (by omega)) | exact Weak.of_eq (congrArg AV.bool (by fail)) | exact Weak.nils _ _ (.inr rfl), ?_⟩), .refl _, hlt, by assumption⟩
      | false =>
        have hnb : (!(laidR x wl i).2) = true := by rw [hb]; rfl
        have hc2 : decide (x.id < y.id) = false := decide_eq_false fun h => hc ⟨hb, h⟩
        refine Xc_h ?_; (conv => whnf); refine Hid.seq ?_; refine Hid.seq ?_; refine Hid.reg ?_; (conv => whnf); refine SLoad.on 0 rfl ?_; (conv => whnf); refine Hid.cond rfl ?_; refine SIf.y Ty.mixed (decide_eq_true (by rw [hml]; omega)) ?_; refine Xc_h ?_; (conv => whnf); refine Hid.skip ?_; (conv => whnf); refine Hid.seq ?_; refine Hid.seq ?_; refine Hid.seq ?_; refine Hid.regD ?_
        refine SReg.t 1 [] (by decide +kernel) ?_; (conv => whnf); refine SCond.y (by assumption) ?_; (conv => whnf); refine SCond.y (by assumption) ?_; (conv => whnf); refine SLoad.on 0 rfl ?_; (conv => whnf); refine SCond.y (by assumption) ?_; (conv => whnf); refine SCond.y (by assumption) ?_; (conv => whnf)
        refine ⟨_, ⟨by first | omega | (rw [hml]; omega) | (simp only [hml]; omega) | fail, by exact ga⟩, ?_⟩
        (conv => whnf); refine SCond.y (by assumption) ?_; (conv => whnf); refine SCond.y (by assumption) ?_; (conv => whnf); refine SCond.y (by assumption) ?_; (conv => whnf); refine SCond.y (by assumption) ?_; (conv => whnf); refine SCond.y (by assumption) ?_; (conv => whnf); refine SPick.y (by assumption) ?_; (conv => whnf); refine Hid.cond rfl ?_; refine SIf.n Ty.mixed (by assumption) ?_
        refine Xc_h ?_; (conv => whnf); refine Hid.skip ?_; (conv => whnf); refine Hid.reg ?_; (conv => whnf); refine SLoad.on 0 rfl ?_; (conv => whnf)
        refine ⟨_, ⟨by first | omega | (rw [hml]; omega) | (simp only [hml]; omega) | fail, by exact ga⟩, ?_⟩
        (conv => whnf)
        refine SApp.c rfl rfl (by assumption) (by simp only [List.length_append, List.length_cons, List.length_nil]; omega) fun tk1 σ1 hm => ?_
        (conv => whnf); refine Hid.reg ?_; (conv => whnf); refine ⟨_, IntWalk.i64_in _ (by omega), ?_⟩; (conv => whnf)
        exact ⟨(i + 1, tk1), by show wl.length - (i + 1) < wl.length - i; omega, by show xWeak [(2, .ptr b2 0), (3, .vp (eSub x)), (4, .ptr b4 0), (5, .ptr b5 0), (6, .slc 10 (laidA x wl (i + 1)) tk1), (7, .bool (laidR x wl (i + 1)).2), (8, .int .i64 (i + 1 : Nat))] _; rw [e1, e2]; repeat (first | exact trivial | refine ⟨by first | trivial | exact Weak.refl _ | exact Weak.tok _ _ _ | exact Weak.of_eq (congrArg (AV.int _) (by omega)) | exact Weak.of_eq (congrArg AV.bool (by fail)) | exact Weak.nils _ _ (.inr rfl), ?_⟩), .refl _, hlt, by assumption⟩
  · have hge : i = wl.length := by omega
    subst hge
    have hfin := laidR_ref x wl wl.length (Nat.le_refl _)
    rw [List.drop_length, refPut] at hfin
    cases hb : (laidR x wl wl.length).2 with
    | true =>
      have hnb : (!(laidR x wl wl.length).2) = false := by rw [hb]; rfl
      rw [hb, if_pos rfl, List.append_nil] at hfin
      refine Xc_h ?_; (conv => whnf); refine Hid.seq ?_; refine Hid.seq ?_; refine Hid.reg ?_; (conv => whnf); refine SLoad.on 0 rfl ?_; (conv => whnf); refine Hid.cond rfl ?_; refine SIf.n Ty.mixed (decide_eq_false (by rw [hml]; omega)) ?_; refine Xc_h ?_; (conv => whnf); refine Hid.exit ?_; (conv => whnf); refine Hid.seq ?_; refine Hid.seq ?_; refine Hid.reg ?_; (conv => whnf)
      refine Hid.cond rfl ?_; refine SIf.n Ty.mixed (by assumption) ?_; refine Xc_h ?_; (conv => whnf); refine Hid.skip ?_; (conv => whnf); refine Hid.seq ?_; refine Hid.reg ?_; (conv => whnf); refine SStore.on 2 rfl ?_; (conv => whnf); refine Hid.seq ?_; refine Hid.reg ?_; (conv => whnf); refine SLoad.on 2 rfl ?_; (conv => whnf); refine SStore.on 1 rfl ?_; (conv => whnf); refine Hid.ret ?_
      (conv => whnf); refine SLoad.on 1 rfl ?_; (conv => whnf); refine .v (le_setBox (le_setBox (hle0.trans (Moves.le (by assumption))) hb2) h4) ?_
      rw [eStt, eSubs]
      dsimp only
      rw [← hfin]
      exact .agg (.cons (.refl _) (.cons (.refl _) (.cons (.refl _) (.cons (.tok _ _ _) .nil)))) (by simp [AV.one])
    | false =>
      have hnb : (!(laidR x wl wl.length).2) = true := by rw [hb]; rfl
      rw [hb, if_neg (by simp)] at hfin
      refine Xc_h ?_; (conv => whnf); refine Hid.seq ?_; refine Hid.seq ?_; refine Hid.reg ?_; (conv => whnf); refine SLoad.on 0 rfl ?_; (conv => whnf); refine Hid.cond rfl ?_; refine SIf.n Ty.mixed (decide_eq_false (by rw [hml]; omega)) ?_; refine Xc_h ?_; (conv => whnf); refine Hid.exit ?_; (conv => whnf); refine Hid.seq ?_; refine Hid.seq ?_; refine Hid.reg ?_; (conv => whnf)
      refine Hid.cond rfl ?_; refine SIf.y Ty.mixed (by assumption) ?_; refine Xc_h ?_; (conv => whnf); refine Hid.reg ?_; (conv => whnf)
      refine SApp.c rfl rfl (by assumption) (by simp only [List.length_append, List.length_cons, List.length_nil]; omega) fun tk1 σ1 hm => ?_
      (conv => whnf); refine Hid.seq ?_; refine Hid.reg ?_; (conv => whnf); refine SStore.on 2 rfl ?_; (conv => whnf); refine Hid.seq ?_; refine Hid.reg ?_; (conv => whnf); refine SLoad.on 2 rfl ?_; (conv => whnf); refine SStore.on 1 rfl ?_; (conv => whnf); refine Hid.ret ?_; (conv => whnf); refine SLoad.on 1 rfl ?_; (conv => whnf)
      refine .v (le_setBox (le_setBox (hle0.trans (Moves.le (by assumption))) hb2) h4) ?_
      rw [eStt, eSubs]
      dsimp only
      rw [← hfin, List.map_append]
      exact .agg (.cons (.refl _) (.cons (.refl _) (.cons (.refl _) (.cons (.tok _ _ _) .nil)))) (by simp [AV.one])
end Go.Proofs.YtgliemhhnkhboaaGreatDoor
end
section
set_option linter.unusedVariables false
set_option linter.unusedSimpArgs false
set_option maxRecDepth 100000
set_option maxHeartbeats 2000000
namespace Go.Proofs.YtgliemhhnkhboaaGreatDoor
open Go.Al Go.RowKit
def sameT (s t : Stt) : Bool := decide (s.clock = t.clock) && (decide (s.next = t.next) && (decide (s.last = t.last) && decide (s.subs = t.subs)))
theorem refSame_any (w0 : Base) (s t : Stt) (hf : Fine s.subs) : CallP Tryz.prog w0 16 [eStt s, eStt t] (.bool (sameT s t)) := by
  refine CallP.h Ty.tok Ty.mixed Tryz.func16 rfl Tryz.ntmps16 rfl (by simp) (by decide +kernel) fun σ => ?_
  obtain ⟨c1, n1, l1, a⟩ := s
  obtain ⟨c2, n2, l2, b⟩ := t
  dsimp only at hf
  have ha := hf.n
  by_cases hd : c1 = c2 ∧ n1 = n2 ∧ l1 = l2 ∧ a.length = b.length
  · obtain ⟨rfl, rfl, rfl, hlen⟩ := hd
    have d1 : (!decide (c1 = c1)) = false := by simp
    have d2 : (!decide (n1 = n1)) = false := by simp
    have d3 : (!decide (l1 = l1)) = false := by simp
    have d4 : (!decide (((a.map eSub).length : Int) = ((b.map eSub).length : Int))) = false := by simp [hlen]
    (conv => whnf); refine Hid.seq ?_; refine Hid.reg ?_; (conv => whnf); refine SBox.f ?_; (conv => whnf); refine SBox.f ?_; (conv => whnf); refine Hid.seq ?_; refine Hid.seq ?_; refine Hid.reg ?_; (conv => whnf); refine SCond.n (by assumption) ?_; (conv => whnf); refine SCond.n (by assumption) ?_; (conv => whnf); refine SCond.n (by assumption) ?_; (conv => whnf); refine SCond.n (by assumption) ?_
    (conv => whnf); refine SCond.n (by assumption) ?_; (conv => whnf); refine SPick.n (by assumption) ?_; (conv => whnf); refine SCond.n (by assumption) ?_; (conv => whnf); refine SCond.n (by assumption) ?_; (conv => whnf); refine SCond.n (by assumption) ?_; (conv => whnf); refine SCond.n (by assumption) ?_; (conv => whnf); refine SCond.n (by assumption) ?_; (conv => whnf)
    refine SPick.n (by assumption) ?_; (conv => whnf); refine SCond.n (by assumption) ?_; (conv => whnf); refine SCond.n (by assumption) ?_; (conv => whnf); refine SCond.n (by assumption) ?_; (conv => whnf); refine SCond.n (by assumption) ?_; (conv => whnf); refine SCond.n (by assumption) ?_; (conv => whnf); refine SCond.n (by assumption) ?_; (conv => whnf); refine SCond.n (by assumption) ?_
    (conv => whnf); refine SPick.n (by assumption) ?_; (conv => whnf); refine Hid.cond rfl ?_; refine SIf.n Ty.mixed (by assumption) ?_; refine Xc_h ?_; (conv => whnf); refine Hid.skip ?_; (conv => whnf); refine Hid.seq ?_; refine Hid.seq ?_; refine Hid.reg ?_; (conv => whnf); refine Hid.block ?_; refine Hid.loop ?_
    refine SLoop.by Ty.mixed (fun i : Nat => a.length - i) (fun i => [(2, .vp (eStt ⟨c1, n1, l1, a⟩)), (3, .vp (eStt ⟨c1, n1, l1, b⟩)), (5, .int .i64 i)]) (fun _ => []) (fun i τ => i ≤ a.length ∧ a.take i = b.take i ∧ τ = σ) 0 ⟨by repeat (first | exact trivial | refine ⟨by first | trivial | exact Weak.refl _ | exact Weak.tok _ _ _ | exact Weak.of_eq (congrArg (AV.int _) (by omega)) | exact Weak.of_eq (congrArg AV.bool (by fail)) | exact Weak.nils _ _ (.inr rfl), ?_⟩), .none _, Nat.zero_le _, by simp, rfl⟩ ?_
    rintro i τ ⟨hi, htk, rfl⟩
    have hml : (a.map eSub).length = a.length := by simp
    have hml2 : (b.map eSub).length = b.length := by simp
    by_cases hlt : i < a.length
    · have ga : (a.map eSub)[i]? = some (eSub a[i]) := by simp [hlt]
      have gb : (b.map eSub)[i]? = some (eSub (b[i]'(by omega))) := by simp [List.getElem?_eq_getElem (show i < b.length by omega)]
      have ht := take_succ_iff hlt (show i < b.length by omega) htk
      have hab : a = b → a[i] = b[i]'(by omega) := fun e => by subst e; rfl
      have hxa := hf.a _ (List.getElem_mem hlt)
      have hxq := hf.q _ (List.getElem_mem hlt)
      generalize a[i] = x at *
      generalize b[i]'(by omega) = y at *
      refine Xc_h ?_; (conv => whnf); refine Hid.seq ?_; refine Hid.seq ?_; refine Hid.reg ?_; (conv => whnf); refine Hid.cond rfl ?_
      skip
      refine SIf.y Ty.mixed (decide_eq_true (by rw [hml]; omega)) ?_; refine Xc_h ?_; (conv => whnf); refine Hid.skip ?_; (conv => whnf); refine Hid.seq ?_; refine Hid.seq ?_; refine Hid.regD ?_; refine SReg.t 1 [] (by decide +kernel) ?_; (conv => whnf)
      refine ⟨_, ⟨by first | omega | (rw [hml]; omega) | (rw [hml2]; omega) | (simp only [hml]; omega) | (simp only [hml2]; omega) | fail, by first | exact ga | exact gb | fail⟩, ?_⟩
      (conv => whnf)
      refine ⟨_, ⟨by first | omega | (rw [hml]; omega) | (rw [hml2]; omega) | (simp only [hml]; omega) | (simp only [hml2]; omega) | fail, by first | exact ga | exact gb | fail⟩, ?_⟩
      (conv => whnf); refine SCall.p (by exact sameSub_any w0 x y hxq hxa) ?_; (conv => whnf); refine Hid.cond rfl ?_
      by_cases hxy : x = y
      · refine SIf.n Ty.mixed (by simp [hxy]) ?_
        refine Xc_h ?_; (conv => whnf); refine Hid.skip ?_; (conv => whnf); refine Hid.reg ?_; (conv => whnf); refine ⟨_, IntWalk.i64_in _ (by omega), ?_⟩; (conv => whnf)
        exact ⟨i + 1, by omega, by repeat (first | exact trivial | refine ⟨by first | trivial | exact Weak.refl _ | exact Weak.tok _ _ _ | exact Weak.of_eq (congrArg (AV.int _) (by omega)) | exact Weak.of_eq (congrArg AV.bool (by fail)) | exact Weak.nils _ _ (.inr rfl), ?_⟩), .none _, hlt, ht.2 hxy, rfl⟩
      · refine SIf.y Ty.mixed (by simp [hxy]) ?_
        refine Xc_h ?_; (conv => whnf); refine Hid.seq ?_; refine Hid.reg ?_; (conv => whnf); refine Hid.ret ?_; (conv => whnf)
        skip
        have : ¬ a = b := fun e => hxy (hab e)
        exact .p (.refl _) (by simp [sameT, this])
    · have hge : i = a.length := by omega
      have : a = b := by rw [hge, List.take_length, hlen, List.take_length] at htk; exact htk
      refine Xc_h ?_; (conv => whnf); refine Hid.seq ?_; refine Hid.seq ?_; refine Hid.reg ?_; (conv => whnf); refine Hid.cond rfl ?_
      skip
      refine SIf.n Ty.mixed (decide_eq_false (by rw [hml]; omega)) ?_; refine Xc_h ?_; (conv => whnf); refine Hid.exit ?_; (conv => whnf); refine Hid.seq ?_; refine Hid.reg ?_; (conv => whnf); refine Hid.ret ?_; (conv => whnf)
      skip
      exact .p (.refl _) (by simp [sameT, this])
  · have hs : sameT ⟨c1, n1, l1, a⟩ ⟨c2, n2, l2, b⟩ = false := by
      cases h : sameT ⟨c1, n1, l1, a⟩ ⟨c2, n2, l2, b⟩ with
      | false => rfl
      | true =>
        simp only [sameT, Bool.and_eq_true, decide_eq_true_eq] at h
        exact absurd ⟨h.1, h.2.1, h.2.2.1, by rw [h.2.2.2]⟩ hd
    rw [hs]
    by_cases h1 : c1 = c2
    · have d1 : (!decide (c1 = c2)) = false := by simp [h1]
      by_cases h2 : n1 = n2
      · have d2 : (!decide (n1 = n2)) = false := by simp [h2]
        by_cases h3 : l1 = l2
        · have d3 : (!decide (l1 = l2)) = false := by simp [h3]
          have d4 : (!decide (((a.map eSub).length : Int) = ((b.map eSub).length : Int))) = true := by
            have : ¬ a.length = b.length := fun e => hd ⟨h1, h2, h3, e⟩
            simp; omega
          (conv => whnf); refine Hid.seq ?_; refine Hid.reg ?_; (conv => whnf); refine SBox.f ?_; (conv => whnf); refine SBox.f ?_; (conv => whnf); refine Hid.seq ?_; refine Hid.seq ?_; refine Hid.reg ?_; (conv => whnf); refine SCond.n (by assumption) ?_; (conv => whnf); refine SCond.n (by assumption) ?_; (conv => whnf); refine SCond.n (by assumption) ?_; (conv => whnf)
          refine SCond.n (by assumption) ?_; (conv => whnf); refine SCond.n (by assumption) ?_; (conv => whnf); refine SPick.n (by assumption) ?_; (conv => whnf); refine SCond.n (by assumption) ?_; (conv => whnf); refine SCond.n (by assumption) ?_; (conv => whnf); refine SCond.n (by assumption) ?_; (conv => whnf); refine SCond.n (by assumption) ?_; (conv => whnf); refine SCond.n (by assumption) ?_
          (conv => whnf); refine SPick.n (by assumption) ?_; (conv => whnf); refine SCond.n (by assumption) ?_; (conv => whnf); refine SCond.n (by assumption) ?_; (conv => whnf); refine SCond.n (by assumption) ?_; (conv => whnf); refine SCond.n (by assumption) ?_; (conv => whnf); refine SCond.n (by assumption) ?_; (conv => whnf); refine SCond.n (by assumption) ?_; (conv => whnf)
          refine SCond.n (by assumption) ?_; (conv => whnf); refine SPick.n (by assumption) ?_; (conv => whnf); refine Hid.cond rfl ?_; refine SIf.y Ty.mixed (by assumption) ?_; refine Xc_h ?_; (conv => whnf); refine Hid.seq ?_; refine Hid.reg ?_; (conv => whnf); refine Hid.ret ?_; (conv => whnf); exact .p (.refl _) rfl
        · have d3 : (!decide (l1 = l2)) = true := by simp [h3]
          (conv => whnf); refine Hid.seq ?_; refine Hid.reg ?_; (conv => whnf); refine SBox.f ?_; (conv => whnf); refine SBox.f ?_; (conv => whnf); refine Hid.seq ?_; refine Hid.seq ?_; refine Hid.reg ?_; (conv => whnf); refine SCond.n (by assumption) ?_; (conv => whnf); refine SCond.n (by assumption) ?_; (conv => whnf); refine SCond.n (by assumption) ?_; (conv => whnf)
          refine SCond.n (by assumption) ?_; (conv => whnf); refine SCond.n (by assumption) ?_; (conv => whnf); refine SPick.n (by assumption) ?_; (conv => whnf); refine SCond.n (by assumption) ?_; (conv => whnf); refine SCond.n (by assumption) ?_; (conv => whnf); refine SCond.n (by assumption) ?_; (conv => whnf); refine SCond.n (by assumption) ?_; (conv => whnf); refine SCond.n (by assumption) ?_
          (conv => whnf); refine SPick.n (by assumption) ?_; (conv => whnf); refine SCond.y (by assumption) ?_; (conv => whnf); refine SCond.y (by assumption) ?_; (conv => whnf); refine SCond.y (by assumption) ?_; (conv => whnf); refine SCond.y (by assumption) ?_; (conv => whnf); refine SCond.y (by assumption) ?_; (conv => whnf); refine SCond.y (by assumption) ?_; (conv => whnf)
          refine SCond.y (by assumption) ?_; (conv => whnf); refine SPick.y (by assumption) ?_; (conv => whnf); refine Hid.cond rfl ?_; refine SIf.y Ty.mixed (by exact rfl) ?_; refine Xc_h ?_; (conv => whnf); refine Hid.seq ?_; refine Hid.reg ?_; (conv => whnf); refine Hid.ret ?_; (conv => whnf); exact .p (.refl _) rfl
      · have d2 : (!decide (n1 = n2)) = true := by simp [h2]
        (conv => whnf); refine Hid.seq ?_; refine Hid.reg ?_; (conv => whnf); refine SBox.f ?_; (conv => whnf); refine SBox.f ?_; (conv => whnf); refine Hid.seq ?_; refine Hid.seq ?_; refine Hid.reg ?_; (conv => whnf); refine SCond.n (by assumption) ?_; (conv => whnf); refine SCond.n (by assumption) ?_; (conv => whnf); refine SCond.n (by assumption) ?_; (conv => whnf)
        refine SCond.n (by assumption) ?_; (conv => whnf); refine SCond.n (by assumption) ?_; (conv => whnf); refine SPick.n (by assumption) ?_; (conv => whnf); refine SCond.y (by assumption) ?_; (conv => whnf); refine SCond.y (by assumption) ?_; (conv => whnf); refine SCond.y (by assumption) ?_; (conv => whnf); refine SCond.y (by assumption) ?_; (conv => whnf); refine SCond.y (by assumption) ?_
        (conv => whnf); refine SPick.y (by assumption) ?_; (conv => whnf); refine SCond.y (by exact rfl) ?_; (conv => whnf); refine SCond.y (by exact rfl) ?_; (conv => whnf); refine SCond.y (by exact rfl) ?_; (conv => whnf); refine SCond.y (by exact rfl) ?_; (conv => whnf); refine SCond.y (by exact rfl) ?_; (conv => whnf); refine SCond.y (by exact rfl) ?_; (conv => whnf)
        refine SCond.y (by exact rfl) ?_; (conv => whnf); refine SPick.y (by exact rfl) ?_; (conv => whnf); refine Hid.cond rfl ?_; refine SIf.y Ty.mixed (by exact rfl) ?_; refine Xc_h ?_; (conv => whnf); refine Hid.seq ?_; refine Hid.reg ?_; (conv => whnf); refine Hid.ret ?_; (conv => whnf); exact .p (.refl _) rfl
    · have d1 : (!decide (c1 = c2)) = true := by simp [h1]
      (conv => whnf); refine Hid.seq ?_; refine Hid.reg ?_; (conv => whnf); refine SBox.f ?_; (conv => whnf); refine SBox.f ?_; (conv => whnf); refine Hid.seq ?_; refine Hid.seq ?_; refine Hid.reg ?_; (conv => whnf); refine SCond.y (by assumption) ?_; (conv => whnf); refine SCond.y (by assumption) ?_; (conv => whnf); refine SCond.y (by assumption) ?_; (conv => whnf)
      refine SCond.y (by assumption) ?_; (conv => whnf); refine SCond.y (by assumption) ?_; (conv => whnf); refine SPick.y (by assumption) ?_; (conv => whnf); refine SCond.y (by exact rfl) ?_; (conv => whnf); refine SCond.y (by exact rfl) ?_; (conv => whnf); refine SCond.y (by exact rfl) ?_; (conv => whnf); refine SCond.y (by exact rfl) ?_; (conv => whnf); refine SCond.y (by exact rfl) ?_
      (conv => whnf); refine SPick.y (by exact rfl) ?_; (conv => whnf); refine SCond.y (by exact rfl) ?_; (conv => whnf); refine SCond.y (by exact rfl) ?_; (conv => whnf); refine SCond.y (by exact rfl) ?_; (conv => whnf); refine SCond.y (by exact rfl) ?_; (conv => whnf); refine SCond.y (by exact rfl) ?_; (conv => whnf); refine SCond.y (by exact rfl) ?_; (conv => whnf)
      refine SCond.y (by exact rfl) ?_; (conv => whnf); refine SPick.y (by exact rfl) ?_; (conv => whnf); refine Hid.cond rfl ?_; refine SIf.y Ty.mixed (by exact rfl) ?_; refine Xc_h ?_; (conv => whnf); refine Hid.seq ?_; refine Hid.reg ?_; (conv => whnf); refine Hid.ret ?_; (conv => whnf); exact .p (.refl _) rfl
end Go.Proofs.YtgliemhhnkhboaaGreatDoor
end
