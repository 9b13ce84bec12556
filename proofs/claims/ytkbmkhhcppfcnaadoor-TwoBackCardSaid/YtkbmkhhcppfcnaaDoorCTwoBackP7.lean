/- The law TwoBack returns true for every input, and its arguments read as before: the tied card. No conditions. This is part 7 of 8 of its proof; the parts are read in order. No conditions. -/
import Derived.Test.YtkbmkhhcppfcnaaDoorCTwoBackP6
section
set_option linter.unusedVariables false
set_option linter.unusedSimpArgs false
set_option maxRecDepth 100000
set_option maxHeartbeats 4000000
namespace Go.Proofs.YtkbmkhhcppfcnaaDoor
open Go.Al Go.RowKit
structure InDec (σ s : St) (b2 b4 : Nat) (x : Sub) (tg tq : Tok) : Prop where
  r : s.box b2 = some z10
  b : s.box b4 = some (subC x .full tq)
  mg : Moves σ .full s tg
  mq : Moves σ .full s tq
  d : ∀ p, tq = .own p → tg ≠ .own p
theorem InDec.other {σ s : St} {b2 b4 b : Nat} {x : Sub} {tg tq : Tok} {cs : List AV} (h : InDec σ s b2 b4 x tg tq) (h2 : b2 ≠ b) (h4 : b4 ≠ b) (hb : σ.box b = none) : InDec σ (s.setBox b cs) b2 b4 x tg tq :=
  ⟨hb_ne h2 h.r, hb_ne h4 h.b, h.mg.new hb, h.mq.new hb, h.d⟩
theorem InDec.set {σ s : St} {b2 b4 : Nat} {x x' : Sub} {tg tq : Tok} (h : InDec σ s b2 b4 x tg tq) (hne : b2 ≠ b4) (hb : σ.box b4 = none) : InDec σ (s.setBox b4 (subC x' .full tq)) b2 b4 x' tg tq :=
  ⟨hb_ne hne h.r, setBox_same, h.mg.new hb, h.mq.new hb, h.d⟩
theorem InDec.gaps {σ s s1 : St} {b2 b4 : Nat} {x : Sub} {tg tq tk : Tok} (h : InDec σ s b2 b4 x tg tq) (hm : Moves s tg s1 tk) : InDec σ s1 b2 b4 x tk tq := by
  obtain ⟨h1, h2, h3⟩ := Moves.two h.mg h.mq h.d hm
  exact ⟨hm.box _ _ h.r, hm.box _ _ h.b, h1, h2, h3⟩
theorem InDec.queue {σ s s1 : St} {b2 b4 : Nat} {x x' : Sub} {tg tq tk : Tok} (h : InDec σ s b2 b4 x tg tq) (hne : b2 ≠ b4) (hb : σ.box b4 = none) (hm : Moves s tq s1 tk) : InDec σ (s1.setBox b4 (subC x' .full tk)) b2 b4 x' tg tk := by
  obtain ⟨h1, h2, h3⟩ := Moves.two h.mq h.mg (fun p e e' => h.d p e' e) hm
  exact ⟨hb_ne hne (hm.box _ _ h.r), setBox_same, h2.new hb, h1.new hb, fun p e e' => h3 p e' e⟩
theorem rGaps_ge : ∀ (v : List UInt8) (n a : Nat) (f : Option Nat) (acc : List Int), acc.length ≤ (rGaps v n a f acc).1.length
  | v, 0, a, f, acc => by simp [rGaps]
  | v, n + 1, a, f, acc => by
    rw [rGaps]
    split
    · have := rGaps_ge v n (rNum v a f).2.1 (rNum v a f).2.2 (acc ++ [((rNum v a f).1 : Int)])
      simp at this; omega
    · exact Nat.le_refl _
theorem rNum_le53 (v : List UInt8) (a : Nat) (f : Option Nat) : (rNum v a f).1 ≤ 9007199254740992 := by
  have h := (getNum_le v a).2.1
  simp only [rNum]; split
  · exact h
  · exact Nat.zero_le _
def dHead (l : List Row) (b2 b4 : Nat) (i : Nat) (g : List Int) (tg : Tok) (good : Bool) : List (Nat × AV) :=
  [(0, eRows l), (2, .ptr b2 0), (3, .int .u16 0), (4, .ptr b4 0), (5, .slc 1 (g.map (.int .i64)) tg), (6, .bool good), (20, eRows l), (21, .int .i64 l.length), (22, .int .i64 i)]
theorem decode_any (w0 : World) (hL : Laid w0) (l : List Row) (hT : tot l ≤ 100000) (hK : ∀ r ∈ l, r.key.length ≤ 1000) : CallP Tryd.prog w0 18 [eRows l] (.tup [eSub (dec3 l).1, .int .u16 (dec3 l).2]) := by
  refine CallP.start Tryd.func18 rfl Tryd.ntmps18 (by simp) fun σ Q hQ => ?_
  have hll := tot_len l
  refine W.seq ?_; refine W.regionL (by decide +kernel) rfl ?_; apply r_alloc; exact rfl; exact rfl; decide; exact rfl; (conv => (lhs; whnf)); intro b1 hb1; apply r_op; exact rfl; exact rfl; apply a_assign; (conv => (lhs; whnf)); refine runs_done ?_; show W _ _ _ _ _ _ _; refine W.seq ?_; refine W.regionL (by decide +kernel) rfl ?_; apply r_alloc; exact rfl; exact rfl; decide; exact rfl
  (conv => (lhs; whnf)); intro b1 hb1; refine runs_done ?_; show W _ _ _ _ _ _ _; refine W.seq ?_; refine W.regionL (by decide +kernel) rfl ?_; apply r_op; exact rfl; exact rfl; apply a_assign; (conv => (lhs; whnf)); refine runs_done ?_; show W _ _ _ _ _ _ _; refine W.seq ?_; refine W.regionL (by decide +kernel) rfl ?_; apply r_op; exact rfl; exact rfl; apply a_assign; (conv => (lhs; whnf))
  refine runs_done ?_; show W _ _ _ _ _ _ _
  rename_i b2 hb2
  have hne : b2 ≠ b1 := ne_none' hb1
  have hs4 : σ.box b1 = none := none_in hb1
  generalize b1 = b4 at hne hs4 hb1 ⊢
  have hd0 : InDec σ ((σ.setBox b2 z10).setBox b4 (subC sub0 .full .full)) b2 b4 sub0 .full .full :=
    ⟨hb_ne hne setBox_same, setBox_same, ((Moves.full σ).new hb2).new hs4, ((Moves.full σ).new hb2).new hs4, fun p e => by cases e⟩
  refine W.weakBox (b := b4) (ds := subC sub0 .full .full) setBox_same (.cons (.refl _) (.cons (.refl _) (.cons (.refl _) (.cons (.refl _) (.cons (.refl _) (.cons (.refl _) (.cons (.refl _) (.cons (.nils 1 .full (.inr rfl)) (.cons (.nils 8 .full (.inr rfl)) (.cons (.refl _) .nil)))))))))) ?_
  rw [setBox_setBox]
  change W Tryd.prog w0 _ _ _ _ ((σ.setBox b2 z10).setBox b4 (subC sub0 .full .full))
  generalize (σ.setBox b2 z10).setBox b4 (subC sub0 .full .full) = s1 at hd0 ⊢
  refine W.seq ?_
  refine W.meet (fun E s => ∃ tg tq, InDec σ s b2 b4 (dRows l l.length).x tg tq ∧ Has [(0, eRows l), (2, .ptr b2 0), (3, .int .u16 0), (4, .ptr b4 0), (5, .slc 1 ((dRows l l.length).gaps.map (.int .i64)) tg), (6, .bool (dRows l l.length).good)] E) ?_ ?_
  · refine W.seq ?_
    refine W.regionL (by decide +kernel) rfl ?_; apply r_op; exact rfl; exact rfl; apply a_move; (conv => (lhs; whnf)); apply r_op; exact rfl; exact rfl; apply g_call; exact a_len_slc rfl; apply r_op; exact rfl; exact rfl; apply a_move; (conv => (lhs; whnf)); (with_reducible refine runs_done ?_); refine W.block ?_
    refine W.loop (fun k E s => ∃ (i : Nat) (tg tq : Tok), i ≤ l.length ∧ k = l.length - i ∧ InDec σ s b2 b4 (dRows l i).x tg tq ∧ Has (dHead l b2 b4 i (dRows l i).gaps tg (dRows l i).good) E) l.length ⟨0, .full, .full, Nat.zero_le _, rfl, hd0, ?_⟩ ?_
    · rw [List.length_map]
      unfold dHead
      exact Has.by (by repeat (first | exact trivial | refine ⟨by first | trivial | exact Weak.refl _ | exact Weak.tok _ _ _ | exact Weak.of_eq (congrArg (AV.int _) (by omega)) | exact Weak.of_eq (congrArg AV.bool (by fail)) | exact Weak.nils _ _ (.inr rfl), ?_⟩))
    clear hd0 hb1 s1; rintro k E s ⟨i, tg, tq, hi, rfl, hs, hE⟩; refine W.has hE ?_; clear hE
    unfold dHead
    refine W.seq ?_; refine W.regionL (by decide +kernel) rfl ?_; apply r_op; exact rfl; exact rfl; apply g_binOp; exact a_binI rfl rfl rfl; (with_reducible refine runs_done ?_); refine W.seq ?_; refine W.cond rfl (fun hc => ?_) (fun hc => ?_)
    · have hlt : i < l.length := by simp at hc; omega
      have ga : l[i]? = some l[i] := by simp [hlt]
      have hmem : l[i] ∈ l := List.getElem_mem hlt
      have hkl := hK _ hmem
      have hvl : l[i].val.length ≤ 100000 := by have := tot_mem hmem; omega
      have hfit := dRows_fit l i (by omega)
      have htl := tot_le l i
      have hrow : dRows l (i + 1) = dStep (dRows l i) i ((l[i - 1]?).getD ⟨[], []⟩).key l[i] := by rw [dRows, ga]; rfl
      clear hmem hc
      generalize l[i] = r at ga hkl hvl hrow
      generalize hd : dRows l i = d at hs hfit hrow ⊢
      refine W.skip ?_; show W _ _ _ _ _ _ _; refine W.seq ?_; refine W.block ?_; refine W.seq ?_; refine W.regionL (by decide +kernel) rfl ?_; apply r_op; exact rfl; exact rfl; apply a_move; (conv => (lhs; whnf)); apply r_op; exact rfl; exact rfl; apply g_indexAddr; exact a_indexAddr rfl rfl (by decide) (by omega) (by exact get_map ga); apply r_op; exact rfl; exact rfl; apply g_load
      exact a_loadA rfl (by rfl) rfl; apply r_alloc; exact rfl; exact rfl; decide; exact rfl; (conv => (lhs; whnf)); intro b1 hb1; apply r_op; exact rfl; exact rfl; apply a_assign; (conv => (lhs; whnf)); apply r_store; exact rfl; exact rfl; exact rfl; decide; infer_instance; exact rfl; exact setBox_same; (conv => (lhs; whnf)); exact rfl; (conv => (lhs; whnf)); exact rfl; exact of_decide_eq_true rfl
      exact setL_whole rfl; refine runs_done ?_; show W _ _ _ _ _ _ _; refine W.freeze1 8 (eRow r) (by assumption) rfl rfl rfl ?_; clear hb1
      have hp := partsS_any w0 hL r.key (by omega)
      have hdr : dRow d r = dRow d r := rfl
      conv at hdr => (rhs; unfold dRow)
      generalize parts r.key = p at hp hdr
      have hb := hs.b
      refine W.seq ?_; refine W.regionL (by decide +kernel) rfl ?_; apply r_op; exact rfl; exact rfl; apply g_fieldAddr; exact a_fieldAddr1 rfl (by decide) rfl; apply r_op; exact rfl; exact rfl; apply g_load; exact a_load1 rfl rfl; apply r_callP; exact rfl; exact rfl; exact rfl; exact rfl; exact rfl; infer_instance; exact hp; apply r_op; exact rfl; exact rfl; apply a_move; (conv => (lhs; whnf))
      apply r_op; exact rfl; exact rfl; apply g_extract; exact a_extract rfl rfl; apply r_op; exact rfl; exact rfl; apply g_extract; exact a_extract rfl rfl; apply r_op; exact rfl; exact rfl; apply g_extract; exact a_extract rfl rfl; apply r_op; exact rfl; exact rfl; apply g_extract; exact a_extract rfl rfl; apply r_op; exact rfl; exact rfl; apply g_extract; exact a_extract rfl rfl; apply r_op
      exact rfl; exact rfl; apply a_assign; (conv => (lhs; whnf)); apply r_op; exact rfl; exact rfl; apply a_assign; (conv => (lhs; whnf)); apply r_op; exact rfl; exact rfl; apply a_assign; (conv => (lhs; whnf)); apply r_op; exact rfl; exact rfl; apply a_assign; (conv => (lhs; whnf)); apply r_op; exact rfl; exact rfl; apply a_assign; (conv => (lhs; whnf)); refine runs_done ?_; show W _ _ _ _ _ _ _
      refine W.seq ?_; refine W.regionL (by decide +kernel) rfl ?_; apply r_op; exact rfl; exact rfl; apply a_move; (conv => (lhs; whnf)); apply r_op; exact rfl; exact rfl; apply g_fieldAddr; exact a_fieldAddrP rfl (by decide); apply r_store; exact rfl; exact rfl; exact rfl; decide; infer_instance; exact rfl; assumption; (conv => (lhs; whnf)); exact rfl; (conv => (lhs; whnf)); exact rfl
      exact of_decide_eq_true rfl; exact rfl; refine runs_done ?_; show W _ _ _ _ _ _ _; refine W.seq ?_; refine W.regionL (by decide +kernel) rfl ?_; apply r_op; exact rfl; exact rfl; apply g_fieldAddr; exact a_fieldAddr1 rfl (by decide) rfl; apply r_op; exact rfl; exact rfl; apply g_load; exact a_load1 rfl rfl; apply r_op; exact rfl; exact rfl; apply g_build; apply a_build
      apply EvP.cons (by (conv => (lhs; whnf))); exact EvP.nil
      simp only [aFill, List.getElem?_cons_zero, List.getElem?_cons_succ, AV.cells, List.length_cons, List.length_nil, AV.flat, AV.one, setL, List.set_cons_zero, List.set_cons_succ, Nat.reduceAdd, Nat.reduceLeDiff, Nat.reduceMul, and_self, if_true, ↓reduceIte, Nat.zero_add, Nat.le_refl, List.range, List.range.loop, List.map_cons, List.map_nil, Nat.zero_le]
      rfl; apply r_op; exact rfl; exact rfl; apply g_build; apply a_build; apply EvP.cons (by (conv => (lhs; whnf))); exact EvP.nil
      simp only [aFill, List.getElem?_cons_zero, List.getElem?_cons_succ, AV.cells, List.length_cons, List.length_nil, AV.flat, AV.one, setL, List.set_cons_zero, List.set_cons_succ, Nat.reduceAdd, Nat.reduceLeDiff, Nat.reduceMul, and_self, if_true, ↓reduceIte, Nat.zero_add, Nat.le_refl, List.range, List.range.loop, List.map_cons, List.map_nil, Nat.zero_le]
      rfl; apply r_box; exact rfl; exact rfl; decide; exact rfl; (conv => (lhs; whnf)); exact rfl; (conv => (lhs; whnf)); intro b1 hb1; apply r_op; exact rfl; exact rfl; apply a_assign; (conv => (lhs; whnf)); refine runs_done ?_; show W _ _ _ _ _ _ _
      generalize b1 = b14 at *
      have hb14 := none_in hb1
      have h414 : b4 ≠ b14 := (ne_some hs.b hb14).symm
      have h214 : b2 ≠ b14 := (ne_some hs.r hb14).symm
      have hσ14 := none_moves hs.mg hb14
      have hs1 := hs.set (x' := { d.x with id := p.id }) hne hs4
      change W Tryd.prog w0 _ _ _ _ ((s.setBox b4 (subC { d.x with id := p.id } .full tq)).setBox b14 (rd r.val 0 none))
      generalize s.setBox b4 (subC { d.x with id := p.id } .full tq) = S1 at hs1 ⊢
      generalize hx1 : ({ d.x with id := p.id } : Sub) = x1 at hs1 hdr
      clear hb1 hb
      have hgl := hfit.gaps
      have hql := hfit.queue
      have hv : r.val.length ≤ 1000000 := by omega
      generalize hD : dRow d r = D at hdr
      refine W.seq ?_
      refine W.meet (fun E s' => ∃ (a : Nat) (tg tq : Tok) (S' : St), s' = S'.setBox b14 (rd r.val a D.2) ∧ InDec σ S' b2 b4 D.1.x tg tq ∧ Has [(0, eRows l), (2, .ptr b2 0), (3, .int .u16 0), (4, .ptr b4 0), (5, .slc 1 (D.1.gaps.map (.int .i64)) tg), (6, .bool d.good), (7, .int .i64 i), (8, .vp (eRow r)), (14, .ptr b14 0), (20, eRows l), (21, .int .i64 l.length), (22, .int .i64 i)] E) ?_ ?_
      · obtain ⟨n1, a1, f1, e1, k1⟩ := rn_to none hv (show 0 ≤ 1000000 by decide)
        refine W.seq ?_; refine W.regionL (by decide +kernel) rfl ?_; apply r_op; exact rfl; exact rfl; apply a_move; (conv => (lhs; whnf)); (with_reducible refine runs_done ?_); refine W.block ?_; refine W.seq ?_; refine W.regionL (by decide +kernel) rfl ?_; apply r_op; exact rfl; exact rfl; apply g_binOp; exact a_binI rfl rfl rfl; apply r_op; exact rfl; exact rfl; apply a_assign
        (conv => (lhs; whnf)); (with_reducible refine runs_done ?_); refine W.cond rfl (fun hc => ?_) (fun hc => ?_)
        · have ht : p.t = 97 := UInt8.toNat_inj.1 (by have := of_decide_eq_true hc; have e : (97 : UInt8).toNat = 97 := rfl; omega)
          rw [if_pos ht, e1] at hdr
          dsimp only at hdr
          have hn1 : n1 ≤ 9007199254740992 := by have := rNum_le53 r.val 0 none; rw [e1] at this; exact this
          have hgb := rGaps_len r.val n1 a1 f1 d.gaps (fun hf => by have := (rNum_step r.val 0 (by rw [e1]; exact hf)).2; rw [e1] at this; exact this)
          generalize hG : rGaps r.val n1 a1 f1 d.gaps = G at hdr hgb
          subst hdr
          dsimp only
          refine W.seq ?_; refine W.regionL (by decide +kernel) rfl ?_; apply r_op; exact rfl; exact rfl; apply a_move; (conv => (lhs; whnf)); apply r_callS; exact rfl; exact rfl; decide; exact rfl; exact rfl; exact rfl; infer_instance; exact rn_in w0 e1 hv (by decide); apply r_op; exact rfl; exact rfl; apply a_assign; (conv => (lhs; whnf)); (with_reducible refine runs_done ?_); refine W.block ?_
          refine W.loop (fun k E s' => ∃ (a : Nat) (f : Option Nat) (acc : List Int) (tg : Tok) (S' : St), s' = S'.setBox b14 (rd r.val a f) ∧ a ≤ 1000000 ∧ rGaps r.val k a f acc = G ∧ k ≤ 9007199254740992 ∧ InDec σ S' b2 b4 x1 tg tq ∧ Has [(0, eRows l), (2, .ptr b2 0), (3, .int .u16 0), (4, .ptr b4 0), (5, .slc 1 (acc.map (.int .i64)) tg), (6, .bool d.good), (7, .int .i64 i), (8, .vp (eRow r)), (14, .ptr b14 0), (15, .int .i64 k), (20, eRows l), (21, .int .i64 l.length), (22, .int .i64 i)] E) n1 ⟨a1, f1, d.gaps, tg, S1, rfl, k1, hG, hn1, hs1, by exact Has.by (by repeat (first | exact trivial | refine ⟨by first | trivial | exact Weak.refl _ | exact Weak.tok _ _ _ | exact Weak.of_eq (congrArg (AV.int _) (by omega)) | exact Weak.of_eq (congrArg AV.bool (by fail)) | exact Weak.nils _ _ (.inr rfl), ?_⟩))⟩ ?_
          clear hs1 hs hG k1 e1 hc; rintro k E s' ⟨a, f, acc, tg, S', rfl, ha, hg, hk, hs, hE⟩; refine W.has hE ?_; clear hE
          cases k with
          | zero =>
            subst hg
            refine W.seq ?_; refine W.seq ?_; refine W.regionL (by decide +kernel) rfl ?_; apply r_op; exact rfl; exact rfl; apply a_move; (conv => (lhs; whnf)); apply r_op; exact rfl; exact rfl; apply g_binOp; exact a_binI rfl rfl rfl; apply r_op; exact rfl; exact rfl; apply a_move; (conv => (lhs; whnf)); apply q_skip; exact rfl; exact want_f rfl rfl rfl (by exact rfl); apply q_skip; exact rfl
            exact want_f rfl rfl rfl (by exact rfl); apply q_skip; exact rfl; exact want_f rfl rfl rfl (by exact rfl); apply q_skip; exact rfl; exact want_f rfl rfl rfl (by exact rfl); apply q_skip; exact rfl; exact want_f rfl rfl rfl (by exact rfl); apply r_op; exact rfl; exact rfl; apply g_pick; apply a_pickF rfl (by exact rfl); (conv => (lhs; whnf)); (with_reducible refine runs_done ?_)
            refine W.condF rfl (by exact rfl) ?_; refine W.exit ?_
            subst hx1
            exact ⟨a, tg, tq, S', rfl, hs, by exact Has.by (by repeat (first | exact trivial | refine ⟨by first | trivial | exact Weak.refl _ | exact Weak.tok _ _ _ | exact Weak.of_eq (congrArg (AV.int _) (by omega)) | exact Weak.of_eq (congrArg AV.bool (by fail)) | exact Weak.nils _ _ (.inr rfl), ?_⟩))⟩
          | succ k =>
            have d1 : decide ((0 : Int) < ((k + 1 : Nat) : Int)) = true := decide_eq_true (by omega)
            cases f with
            | some e =>
              have hg' : G = (acc, some e) := by rw [← hg]; rfl
              subst hg'
              refine W.seq ?_; refine W.seq ?_; refine W.regionL (by decide +kernel) rfl ?_; apply r_op; exact rfl; exact rfl; apply a_move; (conv => (lhs; whnf)); apply r_op; exact rfl; exact rfl; apply g_binOp; exact a_binI rfl rfl rfl; apply r_op; exact rfl; exact rfl; apply a_move; (conv => (lhs; whnf)); apply r_op; exact rfl; exact want_t rfl rfl rfl (by assumption); apply a_move
              (conv => (lhs; whnf)); apply r_op; exact rfl; exact want_t rfl rfl rfl (by assumption); apply g_nilCheck; exact a_nilCheck rfl rfl; apply r_op; exact rfl; exact want_t rfl rfl rfl (by assumption); apply g_fieldAddr; exact a_fieldAddrP rfl (by decide); apply r_load; exact rfl; exact rfl; exact rfl; decide; exact want_t rfl rfl rfl (by assumption); exact setBox_same; exact aLoad1 rfl
              apply r_op; exact rfl; exact want_t rfl rfl rfl (by assumption); apply g_binOp; exact a_nilI rfl rfl (by exact .inr ⟨_, _, rfl⟩) rfl rfl rfl; apply r_op; exact rfl; exact rfl; apply g_pick; apply a_pickT rfl (by assumption); (conv => (lhs; whnf)); (with_reducible refine runs_done ?_); refine W.condF rfl (by exact rfl) ?_; refine W.exit ?_
              subst hx1
              exact ⟨a, tg, tq, S', rfl, hs, by exact Has.by (by repeat (first | exact trivial | refine ⟨by first | trivial | exact Weak.refl _ | exact Weak.tok _ _ _ | exact Weak.of_eq (congrArg (AV.int _) (by omega)) | exact Weak.of_eq (congrArg AV.bool (by fail)) | exact Weak.nils _ _ (.inr rfl), ?_⟩))⟩
            | none =>
              obtain ⟨n2, a2, f2, e2, k2⟩ := rn_to none hv ha
              rw [rGaps, if_pos rfl, e2] at hg
              dsimp only at hg
              have hge := rGaps_ge r.val k a2 f2 (acc ++ [(n2 : Int)])
              rw [hg, List.length_append, List.length_singleton] at hge
              have hal : acc.length ≤ 1000000 := by omega
              have hm0 := Moves.refl (σ := S'.setBox b14 (rd r.val a2 f2)) (tk := tg) hs.mg.room
              have hs2 := hs.other (cs := rd r.val a2 f2) h214 h414 hσ14
              refine W.seq ?_; refine W.seq ?_; refine W.regionL (by decide +kernel) rfl ?_; apply r_op; exact rfl; exact rfl; apply a_move; (conv => (lhs; whnf)); apply r_op; exact rfl; exact rfl; apply g_binOp; exact a_binI rfl rfl rfl; apply r_op; exact rfl; exact rfl; apply a_move; (conv => (lhs; whnf)); apply r_op; exact rfl; exact want_t rfl rfl rfl (by assumption); apply a_move
              (conv => (lhs; whnf)); apply r_op; exact rfl; exact want_t rfl rfl rfl (by assumption); apply g_nilCheck; exact a_nilCheck rfl rfl; apply r_op; exact rfl; exact want_t rfl rfl rfl (by assumption); apply g_fieldAddr; exact a_fieldAddrP rfl (by decide); apply r_load; exact rfl; exact rfl; exact rfl; decide; exact want_t rfl rfl rfl (by assumption); exact setBox_same; exact aLoad1 rfl
              apply r_op; exact rfl; exact want_t rfl rfl rfl (by assumption); apply g_binOp; exact a_nilI rfl rfl (by exact .inl rfl) rfl rfl rfl; apply r_op; exact rfl; exact rfl; apply g_pick; apply a_pickT rfl (by assumption); (conv => (lhs; whnf)); (with_reducible refine runs_done ?_); refine W.condT rfl (by exact rfl) ?_; refine W.skip ?_; show W _ _ _ _ _ _ _; refine W.seq ?_
              refine W.block ?_; refine W.regionL (by decide +kernel) rfl ?_; apply r_op; exact rfl; exact rfl; apply a_move; (conv => (lhs; whnf)); apply r_op; exact rfl; exact rfl; apply a_move; (conv => (lhs; whnf)); apply r_callS; exact rfl; exact rfl; decide; exact rfl; exact rfl; exact rfl; infer_instance; exact rn_in w0 e2 hv ha; apply r_op; exact rfl; exact rfl; apply g_buildSlice
              apply a_build1; (conv => (lhs; whnf)); exact rfl; exact rfl; decide; apply r_append'; exact rfl; exact rfl; decide; infer_instance; exact rfl; exact rfl; exact rfl; exact rfl; exact rfl; assumption
              simp only [length_aBytes, List.length_append, List.length_cons, List.length_nil, List.length_map, List.length_range]
              omega; intro tk1 σ1 hm; apply r_op; exact rfl; exact rfl; apply a_assign; (conv => (lhs; whnf)); (with_reducible refine runs_done ?_); refine W.regionL (by decide +kernel) rfl ?_; apply r_op; exact rfl; exact rfl; apply a_move; (conv => (lhs; whnf)); apply r_op; exact rfl; exact rfl; apply g_binOp; exact a_sub64 rfl rfl (by omega); apply r_op; exact rfl; exact rfl; apply a_assign
              (conv => (lhs; whnf)); (with_reducible refine runs_done ?_)
              refine ⟨k, by omega, a2, f2, acc ++ [(n2 : Int)], tk1, σ1, (setBox_id (hm.box _ _ setBox_same)).symm, k2, hg, by omega, hs2.gaps hm, ?_⟩
              rw [List.map_append]
              exact Has.by (by repeat (first | exact trivial | refine ⟨by first | trivial | exact Weak.refl _ | exact Weak.tok _ _ _ | exact Weak.of_eq (congrArg (AV.int _) (by omega)) | exact Weak.of_eq (congrArg AV.bool (by fail)) | exact Weak.nils _ _ (.inr rfl), ?_⟩))
        · have ht : ¬ p.t = 97 := fun h => by have := of_decide_eq_false hc; rw [h] at this; exact this rfl
          rw [if_neg ht] at hdr
          have hx1q : x1.queue = d.x.queue := by rw [← hx1]
          have hb := hs1.b
          clear hc e1; refine W.seq ?_; refine W.regionL (by decide +kernel) rfl ?_; apply r_op; exact rfl; exact rfl; apply g_binOp; exact a_binI rfl rfl rfl; apply r_op; exact rfl; exact rfl; apply a_assign; (conv => (lhs; whnf)); (with_reducible refine runs_done ?_); refine W.cond rfl (fun hc => ?_) (fun hc => ?_)
          · have ht2 : p.t = 113 := UInt8.toNat_inj.1 (by have := of_decide_eq_true hc; have e : (113 : UInt8).toNat = 113 := rfl; omega)
            rw [if_pos ht2] at hdr
            have hmsg := message_any w0 (b := b14) (S := S1) (v := r.val) (a := 0) (f := none) p.seq hv (by decide)
            generalize rMsg p.seq r.val 0 none = m at hdr hmsg
            obtain ⟨m, a2, f2⟩ := m
            dsimp only at hdr hmsg
            have hql1 : x1.queue.length ≤ 1000000 := by rw [hx1q]; omega
            have hm0 := Moves.refl (σ := S1.setBox b14 (rd r.val a2 f2)) (tk := tq) hs1.mq.room
            have hs2 := hs1.other (cs := rd r.val a2 f2) h214 h414 hσ14
            refine W.regionDH b4 [] [46] (by apply hb_ne (by assumption); assumption) Ty.mixed (by decide +kernel) (by decide +kernel) rfl ?_; apply r_op; exact rfl; exact rfl; apply g_fieldAddr; exact a_fieldAddrP rfl (by decide); apply r_loadH; exact rfl; exact rfl; exact rfl; exact rfl; exact rfl; exact rfl; exact rfl; apply hb_ne (by assumption); assumption; exact aLoad1 rfl
            apply r_op; exact rfl; exact rfl; apply a_move; (conv => (lhs; whnf)); apply r_op; exact rfl; exact rfl; apply a_move; (conv => (lhs; whnf)); apply r_callH; exact rfl; exact rfl; exact rfl; exact rfl; exact rfl; exact rfl; exact rfl; exact rfl; infer_instance; exact hmsg; apply hb_ne (by assumption); assumption; apply r_op; exact rfl; exact rfl; apply g_buildSlice; apply a_build1
            (conv => (lhs; whnf)); exact rfl; exact rfl; decide; apply r_append'; exact rfl; exact rfl; exact rfl; infer_instance; exact rfl; exact rfl; exact rfl; exact rfl; exact rfl; assumption
            simp only [length_aBytes, List.length_append, List.length_cons, List.length_nil, List.length_map, List.length_range]
            omega; intro tk1 σ1 hm; apply r_op; exact rfl; exact rfl; apply g_fieldAddr; exact a_fieldAddrP rfl (by decide); apply r_store; exact rfl; exact rfl; exact rfl; exact rfl; infer_instance; exact rfl; apply hb_moves (by assumption); apply hb_ne (by assumption); assumption; (conv => (lhs; whnf)); exact rfl; (conv => (lhs; whnf)); exact rfl; exact of_decide_eq_true rfl; exact rfl
            refine runs_done ?_
            skip
            have hq := hs2.queue (x' := { x1 with queue := x1.queue ++ [m] }) hne hs4 hm
            simp only [subC, List.map_append, List.map_cons, List.map_nil] at hq
            subst hdr
            subst hx1
            refine ⟨a2, tg, tk1, _, (setBox_id (hb_ne h414.symm (hm.box _ _ setBox_same))).symm, hq, by exact Has.by (by repeat (first | exact trivial | refine ⟨by first | trivial | exact Weak.refl _ | exact Weak.tok _ _ _ | exact Weak.of_eq (congrArg (AV.int _) (by omega)) | exact Weak.of_eq (congrArg AV.bool (by fail)) | exact Weak.nils _ _ (.inr rfl), ?_⟩))⟩
          · have ht2 : ¬ p.t = 113 := fun h => by have := of_decide_eq_false hc; rw [h] at this; exact this rfl
            rw [if_neg ht2] at hdr
            clear hc; refine W.seq ?_; refine W.regionL (by decide +kernel) rfl ?_; apply r_op; exact rfl; exact rfl; apply g_binOp; exact a_binI rfl rfl rfl; apply r_op; exact rfl; exact rfl; apply a_assign; (conv => (lhs; whnf)); (with_reducible refine runs_done ?_); refine W.cond rfl (fun hc => ?_) (fun hc => ?_)
            · have ht3 : p.t = 115 := UInt8.toNat_inj.1 (by have := of_decide_eq_true hc; have e : (115 : UInt8).toNat = 115 := rfl; omega)
              rw [if_pos ht3] at hdr
              obtain ⟨s1, a1, f1, e1, k1⟩ := rt_to none 30 hv (show 0 ≤ 1000000 by decide)
              obtain ⟨s2, a2, f2, e2, k2⟩ := rt_to f1 30 hv k1
              obtain ⟨s3, a3, f3, e3, k3⟩ := rt_to f2 30 hv k2
              obtain ⟨n4, a4, f4, e4, k4⟩ := rn_to f3 hv k3
              obtain ⟨n5, a5, f5, e5, k5⟩ := rn_to f4 hv k4
              obtain ⟨n6, a6, f6, e6, k6⟩ := rn_to f5 hv k5
              obtain ⟨s7, a7, f7, e7, k7⟩ := rt_to f6 30 hv k6
              have hr : rSub x1 r.val = ({ x1 with name := s1, topic := s2, want := s3, lease := n4, most := n5, floor := n6, note := s7 }, f7) := by simp only [rSub, e1, e2, e3, e4, e5, e6, e7]
              refine W.seq ?_; refine W.regionL (by decide +kernel) rfl ?_; apply r_op; exact rfl; exact rfl; apply a_move; (conv => (lhs; whnf)); apply r_callS; exact rfl; exact rfl; decide; exact rfl; exact rfl; exact rfl; infer_instance; exact rt_in w0 e1 hv (by decide) (by decide); apply r_op; exact rfl; exact rfl; apply a_move; (conv => (lhs; whnf)); apply r_callS; exact rfl; exact rfl; decide
              exact rfl; exact rfl; exact rfl; infer_instance; exact rt_in w0 e2 hv k1 (by decide); apply r_op; exact rfl; exact rfl; apply a_move; (conv => (lhs; whnf)); apply r_callS; exact rfl; exact rfl; decide; exact rfl; exact rfl; exact rfl; infer_instance; exact rt_in w0 e3 hv k2 (by decide); apply r_op; exact rfl; exact rfl; apply g_fieldAddr; exact a_fieldAddrP rfl (by decide)
              apply r_store; exact rfl; exact rfl; exact rfl; decide; infer_instance; exact rfl; apply hb_ne (by assumption); assumption; (conv => (lhs; whnf)); exact rfl; (conv => (lhs; whnf)); exact rfl; exact of_decide_eq_true rfl; exact rfl; apply r_op; exact rfl; exact rfl; apply g_fieldAddr; exact a_fieldAddrP rfl (by decide); apply r_store; exact rfl; exact rfl; exact rfl; decide
              infer_instance; exact rfl; exact setBox_same; (conv => (lhs; whnf)); exact rfl; (conv => (lhs; whnf)); exact rfl; exact of_decide_eq_true rfl; exact rfl; apply r_op; exact rfl; exact rfl; apply g_fieldAddr; exact a_fieldAddrP rfl (by decide); apply r_store; exact rfl; exact rfl; exact rfl; decide; infer_instance; exact rfl; exact setBox_same; (conv => (lhs; whnf)); exact rfl
              (conv => (lhs; whnf)); exact rfl; exact of_decide_eq_true rfl; exact rfl; refine runs_done ?_; show W _ _ _ _ _ _ _
              rw [setBox_setBox, setBox_setBox, setBox_comm h414.symm]
              change W Tryd.prog w0 _ _ _ _ ((S1.setBox b4 (subC { x1 with name := s1, topic := s2, want := s3 } .full tq)).setBox b14 (rd r.val a3 f3))
              have hs3 := hs1.set (x' := { x1 with name := s1, topic := s2, want := s3 }) hne hs4
              generalize S1.setBox b4 (subC { x1 with name := s1, topic := s2, want := s3 } .full tq) = S3 at hs3 ⊢
              clear hb
              have hb := hs3.b
              refine W.regionL (by decide +kernel) rfl ?_; apply r_op; exact rfl; exact rfl; apply a_move; (conv => (lhs; whnf)); apply r_callS; exact rfl; exact rfl; decide; exact rfl; exact rfl; exact rfl; infer_instance; exact rn_in w0 e4 hv k3; apply r_op; exact rfl; exact rfl; apply a_move; (conv => (lhs; whnf)); apply r_callS; exact rfl; exact rfl; decide; exact rfl; exact rfl; exact rfl
              infer_instance; exact rn_in w0 e5 hv k4; apply r_op; exact rfl; exact rfl; apply a_move; (conv => (lhs; whnf)); apply r_callS; exact rfl; exact rfl; decide; exact rfl; exact rfl; exact rfl; infer_instance; exact rn_in w0 e6 hv k5; apply r_op; exact rfl; exact rfl; apply a_move; (conv => (lhs; whnf)); apply r_callS; exact rfl; exact rfl; decide; exact rfl; exact rfl; exact rfl
              infer_instance; exact rt_in w0 e7 hv k6 (by decide); apply r_op; exact rfl; exact rfl; apply g_fieldAddr; exact a_fieldAddrP rfl (by decide); apply r_store; exact rfl; exact rfl; exact rfl; decide; infer_instance; exact rfl; apply hb_ne (by assumption); assumption; (conv => (lhs; whnf)); exact rfl; (conv => (lhs; whnf)); exact rfl; exact of_decide_eq_true rfl; exact rfl; apply r_op
              exact rfl; exact rfl; apply g_fieldAddr; exact a_fieldAddrP rfl (by decide); apply r_store; exact rfl; exact rfl; exact rfl; decide; infer_instance; exact rfl; exact setBox_same; (conv => (lhs; whnf)); exact rfl; (conv => (lhs; whnf)); exact rfl; exact of_decide_eq_true rfl; exact rfl; apply r_op; exact rfl; exact rfl; apply g_fieldAddr; exact a_fieldAddrP rfl (by decide)
              apply r_store; exact rfl; exact rfl; exact rfl; decide; infer_instance; exact rfl; exact setBox_same; (conv => (lhs; whnf)); exact rfl; (conv => (lhs; whnf)); exact rfl; exact of_decide_eq_true rfl; exact rfl; apply r_op; exact rfl; exact rfl; apply g_fieldAddr; exact a_fieldAddrP rfl (by decide); apply r_store; exact rfl; exact rfl; exact rfl; decide; infer_instance; exact rfl
              exact setBox_same; (conv => (lhs; whnf)); exact rfl; (conv => (lhs; whnf)); exact rfl; exact of_decide_eq_true rfl; exact rfl; (with_reducible refine runs_done ?_)
              have hfin := hs3.set (x' := { x1 with name := s1, topic := s2, want := s3, lease := n4, most := n5, floor := n6, note := s7 }) hne hs4
              subst hx1
              dsimp only at hdr
              rw [hr] at hdr
              subst hdr
              refine ⟨a7, tg, tq, _, ?_, hfin, by exact Has.by (by repeat (first | exact trivial | refine ⟨by first | trivial | exact Weak.refl _ | exact Weak.tok _ _ _ | exact Weak.of_eq (congrArg (AV.int _) (by omega)) | exact Weak.of_eq (congrArg AV.bool (by fail)) | exact Weak.nils _ _ (.inr rfl), ?_⟩))⟩
              simp only [setBox_setBox]
              exact setBox_comm h414.symm
            · have ht3 : ¬ p.t = 115 := fun h => by have := of_decide_eq_false hc; rw [h] at this; exact this rfl
              rw [if_neg ht3] at hdr
              subst hdr
              subst hx1
              refine W.skip ?_
              exact ⟨0, tg, tq, S1, rfl, hs1, by exact Has.by (by repeat (first | exact trivial | refine ⟨by first | trivial | exact Weak.refl _ | exact Weak.tok _ _ _ | exact Weak.of_eq (congrArg (AV.int _) (by omega)) | exact Weak.of_eq (congrArg AV.bool (by fail)) | exact Weak.nils _ _ (.inr rfl), ?_⟩))⟩
      · rintro E s' ⟨a, tg, tq, S', rfl, hs', hE⟩
        refine W.has hE ?_; clear hE
        have hx : (dRows l (i + 1)).x = D.1.x := by rw [hrow, dStep, hD]
        have hgs : (dRows l (i + 1)).gaps = D.1.gaps := by rw [hrow, dStep, hD]
        have hgd : (dRows l (i + 1)).good = (d.good && (decide (i = 0) || gtS r.key ((l[i - 1]?).getD ⟨[], []⟩).key) && D.2.isNone) := by rw [hrow, dStep, hD]
        have hs2 := hs'.other (cs := rd r.val a D.2) h214 h414 hσ14
        clear hs hs1 hrow hD hdr hp hfit
        obtain ⟨D, fz⟩ := D
        dsimp only at hs2 hx hgs hgd ⊢
        generalize d.good = g at hgd ⊢
        by_cases hi0 : i = 0
        · subst hi0
          have d100 : decide (((0 : Nat) : Int) = 0) = true := rfl
          cases fz with
          | none =>
            refine W.regionDK 1 [] Ty.mixed (by decide +kernel) (by decide +kernel) rfl ?_; apply r_op; exact rfl; exact rfl; apply a_move; (conv => (lhs; whnf)); apply r_op; exact rfl; exact rfl; apply a_move; (conv => (lhs; whnf)); refine q_split rfl rfl rfl (fun hg => ?_) (fun hg => ?_); apply r_op; exact rfl; exact want_t rfl rfl rfl (by assumption); apply a_move; (conv => (lhs; whnf))
            apply r_op; exact rfl; exact want_t rfl rfl rfl (by assumption); apply g_binOp; exact a_binI rfl rfl rfl; apply r_op; exact rfl; exact want_t rfl rfl rfl (by assumption); apply a_move; (conv => (lhs; whnf)); apply q_skip; exact rfl; exact want_f rfl rfl rfl (by exact rfl); apply q_skip; exact rfl; exact want_f rfl rfl rfl (by exact rfl); apply q_skip; exact rfl
            exact want_f rfl rfl rfl (by exact rfl); apply q_skip; exact rfl; exact want_f rfl rfl rfl (by exact rfl); apply q_skip; exact rfl; exact want_f rfl rfl rfl (by exact rfl); apply q_skip; exact rfl; exact want_f rfl rfl rfl (by exact rfl); apply q_skip; exact rfl; exact want_f rfl rfl rfl (by exact rfl); apply q_skip; exact rfl; exact want_f rfl rfl rfl (by exact rfl); apply q_skip
            exact rfl; exact want_f rfl rfl rfl (by exact rfl); apply r_op; exact rfl; exact want_t rfl rfl rfl (by assumption); apply g_pick; apply a_pickT rfl (by exact rfl); (conv => (lhs; whnf)); apply r_op; exact rfl; exact rfl; apply g_pick; apply a_pickT rfl (by assumption); (conv => (lhs; whnf)); apply r_op; exact rfl; exact rfl; apply a_move; (conv => (lhs; whnf)); apply r_op; exact rfl
            exact rfl; apply a_move; (conv => (lhs; whnf)); apply r_op; exact rfl; exact rfl; apply g_nilCheck; exact a_nilCheck rfl rfl; apply r_op; exact rfl; exact rfl; apply g_fieldAddr; exact a_fieldAddrP rfl (by decide); apply r_load; exact rfl; exact rfl; exact rfl; decide; exact rfl; exact setBox_same; exact aLoad1 rfl; apply r_op; exact rfl; exact rfl; apply g_binOp
            exact a_nilI rfl rfl (by exact .inl rfl) rfl rfl rfl; apply r_op; exact rfl; exact rfl; apply g_pick; apply a_pickT rfl (by exact rfl); (conv => (lhs; whnf)); apply r_op; exact rfl; exact rfl; apply a_assign; (conv => (lhs; whnf)); (with_reducible refine runs_done ?_); refine W.regionL (by decide +kernel) rfl ?_; apply r_op; exact rfl; exact rfl; apply g_binOp
            exact a_add64 rfl rfl (by omega); apply r_op; exact rfl; exact rfl; apply a_move; (conv => (lhs; whnf)); (with_reducible refine runs_done ?_); rotate_left; apply q_skip; exact rfl; exact want_f rfl rfl rfl (by assumption); apply q_skip; exact rfl; exact want_f rfl rfl rfl (by assumption); apply q_skip; exact rfl; exact want_f rfl rfl rfl (by assumption); apply q_skip; exact rfl
            exact want_n rfl rfl rfl; apply q_skip; exact rfl; exact want_n rfl rfl rfl; apply q_skip; exact rfl; exact want_n rfl rfl rfl; apply q_skip; exact rfl; exact want_n rfl rfl rfl; apply q_skip; exact rfl; exact want_n rfl rfl rfl; apply q_skip; exact rfl; exact want_n rfl rfl rfl; apply q_skip; exact rfl; exact want_n rfl rfl rfl; apply q_skip; exact rfl; exact want_n rfl rfl rfl
            apply q_skip; exact rfl; exact want_n rfl rfl rfl; apply q_skip; exact rfl; exact want_f rfl rfl rfl (by assumption); apply r_op; exact rfl; exact rfl; apply g_pick; apply a_pickF rfl (by assumption); (conv => (lhs; whnf)); apply r_op; exact rfl; exact rfl; apply a_move; (conv => (lhs; whnf)); apply q_skip; exact rfl; exact want_f rfl rfl rfl (by exact rfl); apply q_skip; exact rfl
            exact want_f rfl rfl rfl (by exact rfl); apply q_skip; exact rfl; exact want_f rfl rfl rfl (by exact rfl); apply q_skip; exact rfl; exact want_f rfl rfl rfl (by exact rfl); apply q_skip; exact rfl; exact want_f rfl rfl rfl (by exact rfl); apply r_op; exact rfl; exact rfl; apply g_pick; apply a_pickF rfl (by exact rfl); (conv => (lhs; whnf)); apply r_op; exact rfl; exact rfl
            apply a_assign; (conv => (lhs; whnf)); (with_reducible refine runs_done ?_); refine W.regionL (by decide +kernel) rfl ?_; apply r_op; exact rfl; exact rfl; apply g_binOp; exact a_add64 rfl rfl (by omega); apply r_op; exact rfl; exact rfl; apply a_move; (conv => (lhs; whnf)); (with_reducible refine runs_done ?_); rotate_left
            all_goals refine ⟨l.length - (0 + 1), by omega, 0 + 1, tg, tq, by omega, rfl, by rw [hx]; exact hs2, ?_⟩
            all_goals rw [hgs, hgd]
            all_goals exact Has.by (by repeat (first | exact trivial | refine ⟨by first | trivial | exact Weak.refl _ | exact Weak.tok _ _ _ | exact Weak.of_eq (congrArg (AV.int _) (by omega)) | exact Weak.of_eq (congrArg AV.bool (by (first | (simp_all [gtS]; done) | (simp only [gtS, Option.getD_some]; rw [hg]; simp [hi0]; done) | fail))) | exact Weak.nils _ _ (.inr rfl), ?_⟩))
          | some e =>
            refine W.regionDK 1 [] Ty.mixed (by decide +kernel) (by decide +kernel) rfl ?_; apply r_op; exact rfl; exact rfl; apply a_move; (conv => (lhs; whnf)); apply r_op; exact rfl; exact rfl; apply a_move; (conv => (lhs; whnf)); refine q_split rfl rfl rfl (fun hg => ?_) (fun hg => ?_); apply r_op; exact rfl; exact want_t rfl rfl rfl (by assumption); apply a_move; (conv => (lhs; whnf))
            apply r_op; exact rfl; exact want_t rfl rfl rfl (by assumption); apply g_binOp; exact a_binI rfl rfl rfl; apply r_op; exact rfl; exact want_t rfl rfl rfl (by assumption); apply a_move; (conv => (lhs; whnf)); apply q_skip; exact rfl; exact want_f rfl rfl rfl (by exact rfl); apply q_skip; exact rfl; exact want_f rfl rfl rfl (by exact rfl); apply q_skip; exact rfl
            exact want_f rfl rfl rfl (by exact rfl); apply q_skip; exact rfl; exact want_f rfl rfl rfl (by exact rfl); apply q_skip; exact rfl; exact want_f rfl rfl rfl (by exact rfl); apply q_skip; exact rfl; exact want_f rfl rfl rfl (by exact rfl); apply q_skip; exact rfl; exact want_f rfl rfl rfl (by exact rfl); apply q_skip; exact rfl; exact want_f rfl rfl rfl (by exact rfl); apply q_skip
            exact rfl; exact want_f rfl rfl rfl (by exact rfl); apply r_op; exact rfl; exact want_t rfl rfl rfl (by assumption); apply g_pick; apply a_pickT rfl (by exact rfl); (conv => (lhs; whnf)); apply r_op; exact rfl; exact rfl; apply g_pick; apply a_pickT rfl (by assumption); (conv => (lhs; whnf)); apply r_op; exact rfl; exact rfl; apply a_move; (conv => (lhs; whnf)); apply r_op; exact rfl
            exact rfl; apply a_move; (conv => (lhs; whnf)); apply r_op; exact rfl; exact rfl; apply g_nilCheck; exact a_nilCheck rfl rfl; apply r_op; exact rfl; exact rfl; apply g_fieldAddr; exact a_fieldAddrP rfl (by decide); apply r_load; exact rfl; exact rfl; exact rfl; decide; exact rfl; exact setBox_same; exact aLoad1 rfl; apply r_op; exact rfl; exact rfl; apply g_binOp
            exact a_nilI rfl rfl (by exact .inr ⟨_, _, rfl⟩) rfl rfl rfl; apply r_op; exact rfl; exact rfl; apply g_pick; apply a_pickT rfl (by exact rfl); (conv => (lhs; whnf)); apply r_op; exact rfl; exact rfl; apply a_assign; (conv => (lhs; whnf)); (with_reducible refine runs_done ?_); refine W.regionL (by decide +kernel) rfl ?_; apply r_op; exact rfl; exact rfl; apply g_binOp
            exact a_add64 rfl rfl (by omega); apply r_op; exact rfl; exact rfl; apply a_move; (conv => (lhs; whnf)); (with_reducible refine runs_done ?_); rotate_left; apply q_skip; exact rfl; exact want_f rfl rfl rfl (by assumption); apply q_skip; exact rfl; exact want_f rfl rfl rfl (by assumption); apply q_skip; exact rfl; exact want_f rfl rfl rfl (by assumption); apply q_skip; exact rfl
            exact want_n rfl rfl rfl; apply q_skip; exact rfl; exact want_n rfl rfl rfl; apply q_skip; exact rfl; exact want_n rfl rfl rfl; apply q_skip; exact rfl; exact want_n rfl rfl rfl; apply q_skip; exact rfl; exact want_n rfl rfl rfl; apply q_skip; exact rfl; exact want_n rfl rfl rfl; apply q_skip; exact rfl; exact want_n rfl rfl rfl; apply q_skip; exact rfl; exact want_n rfl rfl rfl
            apply q_skip; exact rfl; exact want_n rfl rfl rfl; apply q_skip; exact rfl; exact want_f rfl rfl rfl (by assumption); apply r_op; exact rfl; exact rfl; apply g_pick; apply a_pickF rfl (by assumption); (conv => (lhs; whnf)); apply r_op; exact rfl; exact rfl; apply a_move; (conv => (lhs; whnf)); apply q_skip; exact rfl; exact want_f rfl rfl rfl (by exact rfl); apply q_skip; exact rfl
            exact want_f rfl rfl rfl (by exact rfl); apply q_skip; exact rfl; exact want_f rfl rfl rfl (by exact rfl); apply q_skip; exact rfl; exact want_f rfl rfl rfl (by exact rfl); apply q_skip; exact rfl; exact want_f rfl rfl rfl (by exact rfl); apply r_op; exact rfl; exact rfl; apply g_pick; apply a_pickF rfl (by exact rfl); (conv => (lhs; whnf)); apply r_op; exact rfl; exact rfl
            apply a_assign; (conv => (lhs; whnf)); (with_reducible refine runs_done ?_); refine W.regionL (by decide +kernel) rfl ?_; apply r_op; exact rfl; exact rfl; apply g_binOp; exact a_add64 rfl rfl (by omega); apply r_op; exact rfl; exact rfl; apply a_move; (conv => (lhs; whnf)); (with_reducible refine runs_done ?_); rotate_left
            all_goals refine ⟨l.length - (0 + 1), by omega, 0 + 1, tg, tq, by omega, rfl, by rw [hx]; exact hs2, ?_⟩
            all_goals rw [hgs, hgd]
            all_goals exact Has.by (by repeat (first | exact trivial | refine ⟨by first | trivial | exact Weak.refl _ | exact Weak.tok _ _ _ | exact Weak.of_eq (congrArg (AV.int _) (by omega)) | exact Weak.of_eq (congrArg AV.bool (by (first | (simp_all [gtS]; done) | (simp only [gtS, Option.getD_some]; rw [hg]; simp [hi0]; done) | fail))) | exact Weak.nils _ _ (.inr rfl), ?_⟩))
        · have d100 : decide ((i : Int) = 0) = false := decide_eq_false (by omega)
          obtain ⟨pv, hpv⟩ : ∃ pv, l[i - 1]? = some pv := ⟨l[i - 1]'(by omega), by simp⟩
          have gp : l[((i : Int) - 1).toNat]? = some pv := by rw [show ((i : Int) - 1).toNat = i - 1 by omega]; exact hpv
          rw [hpv] at hgd
          cases fz with
          | none =>
            refine W.regionDK 1 [] Ty.mixed (by decide +kernel) (by decide +kernel) rfl ?_; apply r_op; exact rfl; exact rfl; apply a_move; (conv => (lhs; whnf)); apply r_op; exact rfl; exact rfl; apply a_move; (conv => (lhs; whnf)); refine q_split rfl rfl rfl (fun hg => ?_) (fun hg => ?_); apply r_op; exact rfl; exact want_t rfl rfl rfl (by assumption); apply a_move; (conv => (lhs; whnf))
            apply r_op; exact rfl; exact want_t rfl rfl rfl (by assumption); apply g_binOp; exact a_binI rfl rfl rfl; apply r_op; exact rfl; exact want_t rfl rfl rfl (by assumption); apply a_move; (conv => (lhs; whnf)); apply r_op; exact rfl; exact want_t rfl rfl rfl (by assumption); apply g_fieldAddr; exact a_fieldAddr1 rfl (by decide) rfl; apply r_op; exact rfl
            exact want_t rfl rfl rfl (by assumption); apply g_load; exact a_load1 rfl rfl; apply r_op; exact rfl; exact want_t rfl rfl rfl (by assumption); apply a_move; (conv => (lhs; whnf)); apply r_op; exact rfl; exact want_t rfl rfl rfl (by assumption); apply a_move; (conv => (lhs; whnf)); apply r_op; exact rfl; exact want_t rfl rfl rfl (by assumption); apply g_binOp
            exact a_sub64 rfl rfl (by omega); apply r_op; exact rfl; exact want_t rfl rfl rfl (by assumption); apply g_indexAddr; exact a_indexAddr rfl rfl (by decide) (by omega) (by exact get_map gp); apply r_op; exact rfl; exact want_t rfl rfl rfl (by assumption); apply g_fieldAddr; exact a_fieldAddr1 rfl (by decide) rfl; apply r_op; exact rfl; exact want_t rfl rfl rfl (by assumption)
            apply g_load; exact a_load1 rfl rfl; apply r_op; exact rfl; exact want_t rfl rfl rfl (by assumption); apply g_binOp; exact a_binS rfl rfl rfl rfl; apply r_op; exact rfl; exact want_t rfl rfl rfl (by assumption); apply g_pick; apply a_pickF rfl (by assumption); (conv => (lhs; whnf)); apply r_op; exact rfl; exact rfl; apply g_pick; apply a_pickT rfl (by assumption); (conv => (lhs; whnf))
            apply r_op; exact rfl; exact rfl; apply a_move; (conv => (lhs; whnf)); refine q_split rfl rfl rfl (fun hg => ?_) (fun hg => ?_); apply r_op; exact rfl; exact want_t rfl rfl rfl (by assumption); apply a_move; (conv => (lhs; whnf)); apply r_op; exact rfl; exact want_t rfl rfl rfl (by assumption); apply g_nilCheck; exact a_nilCheck rfl rfl; apply r_op; exact rfl
            exact want_t rfl rfl rfl (by assumption); apply g_fieldAddr; exact a_fieldAddrP rfl (by decide); apply r_load; exact rfl; exact rfl; exact rfl; decide; exact want_t rfl rfl rfl (by assumption); exact setBox_same; exact aLoad1 rfl; apply r_op; exact rfl; exact want_t rfl rfl rfl (by assumption); apply g_binOp; exact a_nilI rfl rfl (by exact .inl rfl) rfl rfl rfl; apply r_op; exact rfl
            exact rfl; apply g_pick; apply a_pickT rfl (by assumption); (conv => (lhs; whnf)); apply r_op; exact rfl; exact rfl; apply a_assign; (conv => (lhs; whnf)); (with_reducible refine runs_done ?_); refine W.regionL (by decide +kernel) rfl ?_; apply r_op; exact rfl; exact rfl; apply g_binOp; exact a_add64 rfl rfl (by omega); apply r_op; exact rfl; exact rfl; apply a_move; (conv => (lhs; whnf))
            (with_reducible refine runs_done ?_); rotate_left; apply q_skip; exact rfl; exact want_f rfl rfl rfl (by assumption); apply q_skip; exact rfl; exact want_f rfl rfl rfl (by assumption); apply q_skip; exact rfl; exact want_f rfl rfl rfl (by assumption); apply q_skip; exact rfl; exact want_f rfl rfl rfl (by assumption); apply q_skip; exact rfl; exact want_f rfl rfl rfl (by assumption)
            apply r_op; exact rfl; exact rfl; apply g_pick; apply a_pickF rfl (by assumption); (conv => (lhs; whnf)); apply r_op; exact rfl; exact rfl; apply a_assign; (conv => (lhs; whnf)); (with_reducible refine runs_done ?_); refine W.regionL (by decide +kernel) rfl ?_; apply r_op; exact rfl; exact rfl; apply g_binOp; exact a_add64 rfl rfl (by omega); apply r_op; exact rfl; exact rfl; apply a_move
            (conv => (lhs; whnf)); (with_reducible refine runs_done ?_); rotate_left; apply q_skip; exact rfl; exact want_f rfl rfl rfl (by assumption); apply q_skip; exact rfl; exact want_f rfl rfl rfl (by assumption); apply q_skip; exact rfl; exact want_f rfl rfl rfl (by assumption); apply q_skip; exact rfl; exact want_n rfl rfl rfl; apply q_skip; exact rfl; exact want_n rfl rfl rfl; apply q_skip
            exact rfl; exact want_n rfl rfl rfl; apply q_skip; exact rfl; exact want_n rfl rfl rfl; apply q_skip; exact rfl; exact want_n rfl rfl rfl; apply q_skip; exact rfl; exact want_n rfl rfl rfl; apply q_skip; exact rfl; exact want_n rfl rfl rfl; apply q_skip; exact rfl; exact want_n rfl rfl rfl; apply q_skip; exact rfl; exact want_n rfl rfl rfl; apply q_skip; exact rfl
            exact want_f rfl rfl rfl (by assumption); apply r_op; exact rfl; exact rfl; apply g_pick; apply a_pickF rfl (by assumption); (conv => (lhs; whnf)); apply r_op; exact rfl; exact rfl; apply a_move; (conv => (lhs; whnf)); apply q_skip; exact rfl; exact want_f rfl rfl rfl (by exact rfl); apply q_skip; exact rfl; exact want_f rfl rfl rfl (by exact rfl); apply q_skip; exact rfl
            exact want_f rfl rfl rfl (by exact rfl); apply q_skip; exact rfl; exact want_f rfl rfl rfl (by exact rfl); apply q_skip; exact rfl; exact want_f rfl rfl rfl (by exact rfl); apply r_op; exact rfl; exact rfl; apply g_pick; apply a_pickF rfl (by exact rfl); (conv => (lhs; whnf)); apply r_op; exact rfl; exact rfl; apply a_assign; (conv => (lhs; whnf)); (with_reducible refine runs_done ?_)
            refine W.regionL (by decide +kernel) rfl ?_; apply r_op; exact rfl; exact rfl; apply g_binOp; exact a_add64 rfl rfl (by omega); apply r_op; exact rfl; exact rfl; apply a_move; (conv => (lhs; whnf)); (with_reducible refine runs_done ?_); rotate_left
            all_goals refine ⟨l.length - (i + 1), by omega, i + 1, tg, tq, by omega, rfl, by rw [hx]; exact hs2, ?_⟩
            all_goals rw [hgs, hgd]
            all_goals exact Has.by (by repeat (first | exact trivial | refine ⟨by first | trivial | exact Weak.refl _ | exact Weak.tok _ _ _ | exact Weak.of_eq (congrArg (AV.int _) (by omega)) | exact Weak.of_eq (congrArg AV.bool (by (first | (simp_all [gtS]; done) | (simp only [gtS, Option.getD_some]; rw [hg]; simp [hi0]; done) | fail))) | exact Weak.nils _ _ (.inr rfl), ?_⟩))
          | some e =>
            refine W.regionDK 1 [] Ty.mixed (by decide +kernel) (by decide +kernel) rfl ?_; apply r_op; exact rfl; exact rfl; apply a_move; (conv => (lhs; whnf)); apply r_op; exact rfl; exact rfl; apply a_move; (conv => (lhs; whnf)); refine q_split rfl rfl rfl (fun hg => ?_) (fun hg => ?_); apply r_op; exact rfl; exact want_t rfl rfl rfl (by assumption); apply a_move; (conv => (lhs; whnf))
            apply r_op; exact rfl; exact want_t rfl rfl rfl (by assumption); apply g_binOp; exact a_binI rfl rfl rfl; apply r_op; exact rfl; exact want_t rfl rfl rfl (by assumption); apply a_move; (conv => (lhs; whnf)); apply r_op; exact rfl; exact want_t rfl rfl rfl (by assumption); apply g_fieldAddr; exact a_fieldAddr1 rfl (by decide) rfl; apply r_op; exact rfl
            exact want_t rfl rfl rfl (by assumption); apply g_load; exact a_load1 rfl rfl; apply r_op; exact rfl; exact want_t rfl rfl rfl (by assumption); apply a_move; (conv => (lhs; whnf)); apply r_op; exact rfl; exact want_t rfl rfl rfl (by assumption); apply a_move; (conv => (lhs; whnf)); apply r_op; exact rfl; exact want_t rfl rfl rfl (by assumption); apply g_binOp
            exact a_sub64 rfl rfl (by omega); apply r_op; exact rfl; exact want_t rfl rfl rfl (by assumption); apply g_indexAddr; exact a_indexAddr rfl rfl (by decide) (by omega) (by exact get_map gp); apply r_op; exact rfl; exact want_t rfl rfl rfl (by assumption); apply g_fieldAddr; exact a_fieldAddr1 rfl (by decide) rfl; apply r_op; exact rfl; exact want_t rfl rfl rfl (by assumption)
            apply g_load; exact a_load1 rfl rfl; apply r_op; exact rfl; exact want_t rfl rfl rfl (by assumption); apply g_binOp; exact a_binS rfl rfl rfl rfl; apply r_op; exact rfl; exact want_t rfl rfl rfl (by assumption); apply g_pick; apply a_pickF rfl (by assumption); (conv => (lhs; whnf)); apply r_op; exact rfl; exact rfl; apply g_pick; apply a_pickT rfl (by assumption); (conv => (lhs; whnf))
            apply r_op; exact rfl; exact rfl; apply a_move; (conv => (lhs; whnf)); refine q_split rfl rfl rfl (fun hg => ?_) (fun hg => ?_); apply r_op; exact rfl; exact want_t rfl rfl rfl (by assumption); apply a_move; (conv => (lhs; whnf)); apply r_op; exact rfl; exact want_t rfl rfl rfl (by assumption); apply g_nilCheck; exact a_nilCheck rfl rfl; apply r_op; exact rfl
            exact want_t rfl rfl rfl (by assumption); apply g_fieldAddr; exact a_fieldAddrP rfl (by decide); apply r_load; exact rfl; exact rfl; exact rfl; decide; exact want_t rfl rfl rfl (by assumption); exact setBox_same; exact aLoad1 rfl; apply r_op; exact rfl; exact want_t rfl rfl rfl (by assumption); apply g_binOp; exact a_nilI rfl rfl (by exact .inr ⟨_, _, rfl⟩) rfl rfl rfl; apply r_op
            exact rfl; exact rfl; apply g_pick; apply a_pickT rfl (by assumption); (conv => (lhs; whnf)); apply r_op; exact rfl; exact rfl; apply a_assign; (conv => (lhs; whnf)); (with_reducible refine runs_done ?_); refine W.regionL (by decide +kernel) rfl ?_; apply r_op; exact rfl; exact rfl; apply g_binOp; exact a_add64 rfl rfl (by omega); apply r_op; exact rfl; exact rfl; apply a_move
            (conv => (lhs; whnf)); (with_reducible refine runs_done ?_); rotate_left; apply q_skip; exact rfl; exact want_f rfl rfl rfl (by assumption); apply q_skip; exact rfl; exact want_f rfl rfl rfl (by assumption); apply q_skip; exact rfl; exact want_f rfl rfl rfl (by assumption); apply q_skip; exact rfl; exact want_f rfl rfl rfl (by assumption); apply q_skip; exact rfl
            exact want_f rfl rfl rfl (by assumption); apply r_op; exact rfl; exact rfl; apply g_pick; apply a_pickF rfl (by assumption); (conv => (lhs; whnf)); apply r_op; exact rfl; exact rfl; apply a_assign; (conv => (lhs; whnf)); (with_reducible refine runs_done ?_); refine W.regionL (by decide +kernel) rfl ?_; apply r_op; exact rfl; exact rfl; apply g_binOp; exact a_add64 rfl rfl (by omega)
            apply r_op; exact rfl; exact rfl; apply a_move; (conv => (lhs; whnf)); (with_reducible refine runs_done ?_); rotate_left; apply q_skip; exact rfl; exact want_f rfl rfl rfl (by assumption); apply q_skip; exact rfl; exact want_f rfl rfl rfl (by assumption); apply q_skip; exact rfl; exact want_f rfl rfl rfl (by assumption); apply q_skip; exact rfl; exact want_n rfl rfl rfl; apply q_skip
            exact rfl; exact want_n rfl rfl rfl; apply q_skip; exact rfl; exact want_n rfl rfl rfl; apply q_skip; exact rfl; exact want_n rfl rfl rfl; apply q_skip; exact rfl; exact want_n rfl rfl rfl; apply q_skip; exact rfl; exact want_n rfl rfl rfl; apply q_skip; exact rfl; exact want_n rfl rfl rfl; apply q_skip; exact rfl; exact want_n rfl rfl rfl; apply q_skip; exact rfl
            exact want_n rfl rfl rfl; apply q_skip; exact rfl; exact want_f rfl rfl rfl (by assumption); apply r_op; exact rfl; exact rfl; apply g_pick; apply a_pickF rfl (by assumption); (conv => (lhs; whnf)); apply r_op; exact rfl; exact rfl; apply a_move; (conv => (lhs; whnf)); apply q_skip; exact rfl; exact want_f rfl rfl rfl (by exact rfl); apply q_skip; exact rfl
            exact want_f rfl rfl rfl (by exact rfl); apply q_skip; exact rfl; exact want_f rfl rfl rfl (by exact rfl); apply q_skip; exact rfl; exact want_f rfl rfl rfl (by exact rfl); apply q_skip; exact rfl; exact want_f rfl rfl rfl (by exact rfl); apply r_op; exact rfl; exact rfl; apply g_pick; apply a_pickF rfl (by exact rfl); (conv => (lhs; whnf)); apply r_op; exact rfl; exact rfl
            apply a_assign; (conv => (lhs; whnf)); (with_reducible refine runs_done ?_); refine W.regionL (by decide +kernel) rfl ?_; apply r_op; exact rfl; exact rfl; apply g_binOp; exact a_add64 rfl rfl (by omega); apply r_op; exact rfl; exact rfl; apply a_move; (conv => (lhs; whnf)); (with_reducible refine runs_done ?_); rotate_left
            all_goals refine ⟨l.length - (i + 1), by omega, i + 1, tg, tq, by omega, rfl, by rw [hx]; exact hs2, ?_⟩
            all_goals rw [hgs, hgd]
            all_goals exact Has.by (by repeat (first | exact trivial | refine ⟨by first | trivial | exact Weak.refl _ | exact Weak.tok _ _ _ | exact Weak.of_eq (congrArg (AV.int _) (by omega)) | exact Weak.of_eq (congrArg AV.bool (by (first | (simp_all [gtS]; done) | (simp only [gtS, Option.getD_some]; rw [hg]; simp [hi0]; done) | fail))) | exact Weak.nils _ _ (.inr rfl), ?_⟩))
    · have hge : i = l.length := by simp at hc; omega
      subst hge
      refine W.exit ?_
      exact ⟨tg, tq, hs, by exact Has.by (by repeat (first | exact trivial | refine ⟨by first | trivial | exact Weak.refl _ | exact Weak.tok _ _ _ | exact Weak.of_eq (congrArg (AV.int _) (by omega)) | exact Weak.of_eq (congrArg AV.bool (by (first | (simp_all [gtS]; done) | (simp only [gtS, Option.getD_some]; rw [hg]; simp [hi0]; done) | fail))) | exact Weak.nils _ _ (.inr rfl), ?_⟩))⟩
  · rintro E s ⟨tg, tq, hs, hE⟩
    refine W.has hE ?_; clear hE
    have hfit := dRows_fit l l.length (Nat.le_refl _)
    have hgl := hfit.gaps
    rw [List.take_length] at hgl
    have hfits := dSub_fits l hT
    have hac := hfit.acks
    have hdec : dec3 l = if (dRows l l.length).good = true ∧ enc3 (dSub l) = l then (dSub l, 0) else (sub0, 11) := rfl
    have hX : dSub l = { (dRows l l.length).x with acks := runUp (dRows l l.length).x.floor (dRows l l.length).gaps } := rfl
    generalize dRows l l.length = d at hs hfit hgl hac hdec hX ⊢
    generalize dSub l = X at hfits hdec hX
    obtain ⟨x, gaps, good⟩ := d
    dsimp only at hs hgl hac hdec hX ⊢
    have hb := hs.b
    have hr := hs.r
    have hma : Moves σ .full s .full := ⟨hs.mg.box, fun p hp hn => ⟨(hs.mg.keep p hp hn).1, by simp⟩, .inl rfl⟩
    have hb' : s.box b4 = some (subC { x with acks := [] } .full tq) := by rw [hb, ← hac]
    refine W.seq ?_; refine W.regionL (by decide +kernel) rfl ?_; apply r_op; exact rfl; exact rfl; apply g_fieldAddr; exact a_fieldAddrP rfl (by decide); apply r_load; exact rfl; exact rfl; exact rfl; decide; exact rfl; assumption; exact aLoad1 rfl; apply r_op; exact rfl; exact rfl; apply a_assign; (conv => (lhs; whnf)); refine runs_done ?_; show W _ _ _ _ _ _ _; refine W.seq ?_
    refine W.meet (fun E s => ∃ ta, s.box b2 = some z10 ∧ s.box b4 = some (subC X ta tq) ∧ Moves σ .full s ta ∧ Has [(0, eRows l), (2, .ptr b2 0), (3, .int .u16 0), (4, .ptr b4 0), (6, .bool good)] E) ?_ ?_
    · refine W.seq ?_
      refine W.regionL (by decide +kernel) rfl ?_; apply r_op; exact rfl; exact rfl; apply a_move; (conv => (lhs; whnf)); apply r_op; exact rfl; exact rfl; apply g_call; exact a_len_slc rfl; apply r_op; exact rfl; exact rfl; apply a_move; (conv => (lhs; whnf)); (with_reducible refine runs_done ?_); refine W.block ?_
      refine W.loop (fun k E s => ∃ (j : Nat) (acc : List Int) (ta : Tok) (last : Int), j ≤ gaps.length ∧ k = gaps.length - j ∧ acc.length = j ∧ acc ++ runUp last (gaps.drop j) = runUp x.floor gaps ∧ s.box b2 = some z10 ∧ s.box b4 = some (subC { x with acks := acc } ta tq) ∧ Moves σ .full s ta ∧ Has [(0, eRows l), (2, .ptr b2 0), (3, .int .u16 0), (4, .ptr b4 0), (6, .bool good), (16, .int .i64 last), (123, .slc 1 (gaps.map (.int .i64)) .no), (124, .int .i64 gaps.length), (125, .int .i64 j)] E) gaps.length ⟨0, [], .full, x.floor, Nat.zero_le _, rfl, rfl, rfl, hr, hb', hma, ?_⟩ ?_
      · rw [List.length_map]
        exact Has.by (by repeat (first | exact trivial | refine ⟨by first | trivial | exact Weak.refl _ | exact Weak.tok _ _ _ | exact Weak.of_eq (congrArg (AV.int _) (by omega)) | exact Weak.of_eq (congrArg AV.bool (by (first | (simp_all [gtS]; done) | (simp only [gtS, Option.getD_some]; rw [hg]; simp [hi0]; done) | fail))) | exact Weak.nils _ _ (.inr rfl), ?_⟩))
      clear hma hb hb' hr hs s; rintro k E s ⟨j, acc, ta, last, hj, rfl, hal, hacc, hr, hb, hma, hE⟩; refine W.has hE ?_; clear hE; refine W.seq ?_; refine W.regionL (by decide +kernel) rfl ?_; apply r_op; exact rfl; exact rfl; apply g_binOp; exact a_binI rfl rfl rfl; (with_reducible refine runs_done ?_); refine W.seq ?_; refine W.cond rfl (fun hc => ?_) (fun hc => ?_)
      · have hlt : j < gaps.length := by simp at hc; omega
        have ga : gaps[j]? = some gaps[j] := by simp [hlt]
        have hdr : gaps.drop j = gaps[j] :: gaps.drop (j + 1) := List.drop_eq_getElem_cons hlt
        generalize gaps[j] = g at ga hdr
        rw [hdr, runUp] at hacc
        have hal2 : acc.length ≤ 1000000 := by omega
        have hm0 := Moves.refl (σ := s) (tk := ta) hma.room
        refine W.skip ?_; show W _ _ _ _ _ _ _; refine W.seq ?_; refine W.block ?_; refine W.seq ?_; refine W.regionL (by decide +kernel) rfl ?_; apply r_op; exact rfl; exact rfl; apply g_indexAddr; exact a_indexAddr rfl rfl (by decide) (by omega) (by exact get_map ga); apply r_op; exact rfl; exact rfl; apply g_load; exact a_load1 rfl rfl; apply r_op; exact rfl; exact rfl; apply a_assign
        (conv => (lhs; whnf)); (with_reducible refine runs_done ?_); refine W.seq ?_; refine W.regionL (by decide +kernel) rfl ?_; apply r_op; exact rfl; exact rfl; apply a_move; (conv => (lhs; whnf)); apply r_op; exact rfl; exact rfl; apply a_move; (conv => (lhs; whnf)); apply r_op; exact rfl; exact rfl; apply g_binOp; exact a_binI rfl rfl rfl; apply r_op; exact rfl; exact rfl; apply a_assign
        (conv => (lhs; whnf)); (with_reducible refine runs_done ?_); refine W.regionL (by decide +kernel) rfl ?_; apply r_op; exact rfl; exact rfl; apply g_fieldAddr; exact a_fieldAddrP rfl (by decide); apply r_load; exact rfl; exact rfl; exact rfl; decide; exact rfl; assumption; exact aLoad1 rfl; apply r_op; exact rfl; exact rfl; apply a_move; (conv => (lhs; whnf)); apply r_op; exact rfl; exact rfl
        apply g_buildSlice; apply a_build1; (conv => (lhs; whnf)); exact rfl; exact rfl; decide; apply r_append'; exact rfl; exact rfl; decide; infer_instance; exact rfl; exact rfl; exact rfl; exact rfl; exact rfl; assumption
        simp only [length_aBytes, List.length_append, List.length_cons, List.length_nil, List.length_map, List.length_range]
        omega; intro tk1 σ1 hm; apply r_op; exact rfl; exact rfl; apply g_fieldAddr; exact a_fieldAddrP rfl (by decide); apply r_store; exact rfl; exact rfl; exact rfl; decide; infer_instance; exact rfl; apply hb_moves (by assumption); assumption; (conv => (lhs; whnf)); exact rfl; (conv => (lhs; whnf)); exact rfl; exact of_decide_eq_true rfl; exact rfl; (with_reducible refine runs_done ?_)
        refine W.regionL (by decide +kernel) rfl ?_; apply r_op; exact rfl; exact rfl; apply g_binOp; exact a_add64 rfl rfl (by omega); apply r_op; exact rfl; exact rfl; apply a_move; (conv => (lhs; whnf)); (with_reducible refine runs_done ?_)
        have hbox := hm.box _ _ hr
        refine ⟨gaps.length - (j + 1), by omega, j + 1, acc ++ [w64 (last + g)], tk1, w64 (last + g), by omega, rfl, by simp [hal], by rw [List.append_assoc]; exact hacc, hb_ne hne hbox, ?_, (hma.trans hm).new hs4, by exact Has.by (by repeat (first | exact trivial | refine ⟨by first | trivial | exact Weak.refl _ | exact Weak.tok _ _ _ | exact Weak.of_eq (congrArg (AV.int _) (by omega)) | exact Weak.of_eq (congrArg AV.bool (by (first | (simp_all [gtS]; done) | (simp only [gtS, Option.getD_some]; rw [hg]; simp [hi0]; done) | fail))) | exact Weak.nils _ _ (.inr rfl), ?_⟩))⟩
        rw [setBox_same]
        simp only [subC, List.map_append, List.map_cons, List.map_nil]
        rfl
      · have hge : j = gaps.length := by simp at hc; omega
        rw [hge, List.drop_length, runUp, List.append_nil] at hacc
        rw [← hacc] at hX
        subst hX
        refine W.exit ?_
        exact ⟨ta, hr, hb, hma, by exact Has.by (by repeat (first | exact trivial | refine ⟨by first | trivial | exact Weak.refl _ | exact Weak.tok _ _ _ | exact Weak.of_eq (congrArg (AV.int _) (by omega)) | exact Weak.of_eq (congrArg AV.bool (by (first | (simp_all [gtS]; done) | (simp only [gtS, Option.getD_some]; rw [hg]; simp [hi0]; done) | fail))) | exact Weak.nils _ _ (.inr rfl), ?_⟩))⟩
    · rintro E s ⟨ta, hr, hb, hma, hE⟩
      refine W.has hE ?_; clear hE
      have henc : CallP Tryd.prog w0 16 [.agg (subC X ta tq)] (.slc 2 ((enc3 X).map eRow) .no) := fun σ => CallW.weak1 [] [] (weak_sub X ta tq) (encW_room w0 hL X hfits σ).room
      have hlen : (enc3 X).length ≤ 1000000000 := by have := hfits.nqueue; have := preR_len X; rw [enc3_eq]; simp; omega
      have heq := eqRows_any w0 (enc3 X) l .no .no hlen
      clear hfits hX hfit; refine W.seq ?_; refine W.regionL (by decide +kernel) rfl ?_; apply r_op; exact rfl; exact rfl; apply a_assign; (conv => (lhs; whnf)); (with_reducible refine runs_done ?_); refine W.seq ?_; refine W.seq ?_; refine W.regionL (by decide +kernel) rfl ?_; apply r_op; exact rfl; exact rfl; apply a_move; (conv => (lhs; whnf)); apply r_op; exact rfl; exact rfl; apply g_unOp
      exact a_not rfl; apply r_op; exact rfl; exact rfl; apply a_move; (conv => (lhs; whnf)); refine q_split rfl rfl rfl (fun hg => ?_) (fun hg => ?_); apply q_skip; exact rfl; exact want_f rfl rfl rfl (by assumption); apply q_skip; exact rfl; exact want_f rfl rfl rfl (by assumption); apply q_skip; exact rfl; exact want_f rfl rfl rfl (by assumption); apply q_skip; exact rfl
      exact want_f rfl rfl rfl (by assumption); apply q_skip; exact rfl; exact want_f rfl rfl rfl (by assumption); apply q_skip; exact rfl; exact want_f rfl rfl rfl (by assumption); apply r_op; exact rfl; exact rfl; apply g_pick; apply a_pickT rfl (by assumption); (conv => (lhs; whnf)); (with_reducible refine runs_done ?_); refine W.condT rfl (by exact rfl) ?_; refine W.seq ?_
      refine W.regionL (by decide +kernel) rfl ?_; apply r_op; exact rfl; exact rfl; apply g_build; apply a_build; exact EvP.nil
      simp only [aFill, List.getElem?_cons_zero, List.getElem?_cons_succ, AV.cells, List.length_cons, List.length_nil, AV.flat, AV.one, setL, List.set_cons_zero, List.set_cons_succ, Nat.reduceAdd, Nat.reduceLeDiff, Nat.reduceMul, and_self, if_true, ↓reduceIte, Nat.zero_add, Nat.le_refl, List.range, List.range.loop, List.map_cons, List.map_nil, Nat.zero_le]
      rfl; apply r_store; exact rfl; exact rfl; exact rfl; decide; infer_instance; exact rfl; assumption; (conv => (lhs; whnf)); exact rfl; (conv => (lhs; whnf)); exact rfl; exact of_decide_eq_true rfl; exact setL_whole rfl; apply r_op; exact rfl; exact rfl; apply a_assign; (conv => (lhs; whnf)); (with_reducible refine runs_done ?_); refine W.ret ?_; show Q Exit.ret _ _
      refine post_le (σ' := σ) (r := .tup [eSub (dec3 l).1, .int .u16 (dec3 l).2]) hQ (by apply res_cell; exact rfl; exact setBox_same; exact aLoadA rfl (by rfl) rfl; apply res_tmp; exact rfl; exact res_nil) rfl ?_ ?_ ⟨rfl, rfl⟩ (.inl rfl); rotate_left; rotate_left; apply r_load; exact rfl; exact rfl; exact rfl; decide; exact want_t rfl rfl rfl (by assumption); assumption
      exact aLoadA rfl (by rfl) rfl; apply r_callP; exact rfl; exact rfl; exact want_t rfl rfl rfl (by assumption); exact rfl; exact rfl; infer_instance; exact henc; apply r_op; exact rfl; exact want_t rfl rfl rfl (by assumption); apply a_move; (conv => (lhs; whnf)); apply r_op; exact rfl; exact want_t rfl rfl rfl (by assumption); apply a_move; (conv => (lhs; whnf)); apply r_callP; exact rfl
      exact rfl; exact want_t rfl rfl rfl (by assumption); exact rfl; exact rfl; infer_instance; exact heq; apply r_op; exact rfl; exact want_t rfl rfl rfl (by assumption); apply g_unOp; exact a_not rfl; apply r_op; exact rfl; exact rfl; apply g_pick; apply a_pickF rfl (by assumption); (conv => (lhs; whnf)); (with_reducible refine runs_done ?_); refine W.cond rfl (fun hc => ?_) (fun hc => ?_)
      refine W.seq ?_; refine W.regionL (by decide +kernel) rfl ?_; apply r_op; exact rfl; exact rfl; apply g_build; apply a_build; exact EvP.nil
      simp only [aFill, List.getElem?_cons_zero, List.getElem?_cons_succ, AV.cells, List.length_cons, List.length_nil, AV.flat, AV.one, setL, List.set_cons_zero, List.set_cons_succ, Nat.reduceAdd, Nat.reduceLeDiff, Nat.reduceMul, and_self, if_true, ↓reduceIte, Nat.zero_add, Nat.le_refl, List.range, List.range.loop, List.map_cons, List.map_nil, Nat.zero_le]
      rfl; apply r_store; exact rfl; exact rfl; exact rfl; decide; infer_instance; exact rfl; assumption; (conv => (lhs; whnf)); exact rfl; (conv => (lhs; whnf)); exact rfl; exact of_decide_eq_true rfl; exact setL_whole rfl; apply r_op; exact rfl; exact rfl; apply a_assign; (conv => (lhs; whnf)); (with_reducible refine runs_done ?_); refine W.ret ?_; show Q Exit.ret _ _
      refine post_le (σ' := σ) (r := .tup [eSub (dec3 l).1, .int .u16 (dec3 l).2]) hQ (by apply res_cell; exact rfl; exact setBox_same; exact aLoadA rfl (by rfl) rfl; apply res_tmp; exact rfl; exact res_nil) rfl ?_ ?_ ⟨rfl, rfl⟩ (.inl rfl); rotate_left; rotate_left; refine W.skip ?_; show W _ _ _ _ _ _ _; refine W.seq ?_; refine W.regionL (by decide +kernel) rfl ?_; apply r_load; exact rfl
      exact rfl; exact rfl; decide; exact rfl; assumption; exact aLoadA rfl (by rfl) rfl; apply r_store; exact rfl; exact rfl; exact rfl; decide; infer_instance; exact rfl; assumption; (conv => (lhs; whnf)); exact rfl; (conv => (lhs; whnf)); exact rfl; exact of_decide_eq_true rfl; exact setL_whole rfl; apply r_op; exact rfl; exact rfl; apply a_assign; (conv => (lhs; whnf))
      (with_reducible refine runs_done ?_); refine W.ret ?_; show Q Exit.ret _ _; refine post_le (σ' := σ) (r := .tup [eSub (dec3 l).1, .int .u16 (dec3 l).2]) hQ (by apply res_cell; exact rfl; exact setBox_same; exact aLoadA rfl (by rfl) rfl; apply res_tmp; exact rfl; exact res_nil) rfl ?_ ?_ ⟨rfl, rfl⟩ (.inl rfl); rotate_left; rotate_left
      · rw [hdec, if_neg (fun h => by rw [h.1] at hg; cases hg)]
        exact .tup (.cons weak_z0 (.cons (.refl _) .nil))
      · exact le_setBox hma.le hb2
      · rw [hdec, if_neg (fun h => by rw [h.2] at hc; simp at hc)]
        exact .tup (.cons weak_z0 (.cons (.refl _) .nil))
      · exact le_setBox hma.le hb2
      · rw [hdec, if_pos ⟨by simpa using hg, by simpa using hc⟩]
        exact .tup (.cons (weak_sub X ta tq) (.cons (.refl _) .nil))
      · exact le_setBox hma.le hb2
end Go.Proofs.YtkbmkhhcppfcnaaDoor
end
section
set_option linter.unusedVariables false
set_option linter.unusedSimpArgs false
set_option maxRecDepth 100000
set_option maxHeartbeats 8000000
namespace Go.Proofs.YtkbmkhhcppfcnaaDoor
open Go.Al Go.RowKit
def RowFit (r : Row) : Prop := r.key.length = 22 ∧ r.val.length ≤ 1001
theorem rows_snoc {l : List Row} {r : Row} (h : ∀ x ∈ l, RowFit x) (hr : RowFit r) : ∀ x ∈ l ++ [r], RowFit x := fun x hx => by
  rcases List.mem_append.1 hx with hx | hx
  · exact h x hx
  · obtain rfl := List.mem_singleton.1 hx; exact hr
theorem bent3_any (w0 : World) (l : List Row) (a : Nat) (v how : UInt8) (hl : l.length ≤ 1000) (hk : ∀ r ∈ l, r.key.length = 22 ∧ r.val.length ≤ 1000) (ha : a < 65536) (σ : St) :
    CallW Tryd.prog w0 20 [.slc 2 (l.map eRow) .no, .int .u16 a, .int .u8 v.toNat, .int .u8 how.toNat] σ (fun r s => ∃ m : List Row, r = .slc 2 (m.map eRow) .no ∧ ((m.length ≤ 2 * l.length ∧ ∀ x ∈ m, RowFit x) ∧ s = σ)) := by
  refine CallW.start Tryd.func20 rfl Tryd.ntmps20 (by simp) fun Q hQ => ?_
  have hw : IntKind.i64.wrap (a : Int) = (a : Int) := IntWalk.i64_in _ (by omega)
  have hv := v.toNat_lt
  have hh := how.toNat_lt
  refine W.seq ?_; refine W.regionL (by decide +kernel) rfl ?_; apply r_op; exact rfl; exact rfl; apply a_assign; (conv => (lhs; whnf)); refine runs_done ?_; show W _ _ _ _ _ _ _; refine W.seq ?_; refine W.regionL (by decide +kernel) rfl ?_; apply r_op; exact rfl; exact rfl; apply a_assign; (conv => (lhs; whnf)); refine runs_done ?_; show W _ _ _ _ _ _ _; refine W.seq ?_
  refine W.meet (fun E s => ∃ (acc : List Row) (tk : Tok), acc.length ≤ 2 * l.length ∧ (∀ x ∈ acc, RowFit x) ∧ Moves σ .full s tk ∧ Has [(9, .slc 2 (acc.map eRow) tk)] E) ?_ ?_
  · refine W.seq ?_
    refine W.regionL (by decide +kernel) rfl ?_; apply r_op; exact rfl; exact rfl; apply a_assign; (conv => (lhs; whnf)); (with_reducible refine runs_done ?_); refine W.block ?_
    refine W.loop (fun n E s => ∃ (i : Nat) (acc : List Row) (tk : Tok), i ≤ l.length ∧ n = l.length - i ∧ acc.length ≤ 2 * i ∧ (∀ x ∈ acc, RowFit x) ∧ Moves σ .full s tk ∧ Has [(0, .slc 2 (l.map eRow) .no), (1, .int .u16 a), (2, .int .u8 v.toNat), (3, .int .u8 how.toNat), (9, .slc 2 (acc.map eRow) tk), (10, .int .i64 i)] E) l.length ⟨0, [], .full, Nat.zero_le _, rfl, by simp, by simp, .full σ, by exact Has.by (by repeat (first | exact trivial | refine ⟨by first | trivial | exact Weak.refl _ | exact Weak.tok _ _ _ | exact Weak.of_eq (congrArg (AV.int _) (by omega)) | exact Weak.of_eq (congrArg AV.bool (by fail)) | exact Weak.nils _ _ (.inr rfl), ?_⟩))⟩ ?_
    rintro n E s ⟨i, acc, tk, hi, rfl, hal, hrows, hma, hE⟩; refine W.has hE ?_; clear hE; refine W.seq ?_; refine W.seq ?_; refine W.regionL (by decide +kernel) rfl ?_; apply r_op; exact rfl; exact rfl; apply a_move; (conv => (lhs; whnf)); apply r_op; exact rfl; exact rfl; apply a_move; (conv => (lhs; whnf)); apply r_op; exact rfl; exact rfl; apply g_call; exact a_len_slc rfl; apply r_op
    exact rfl; exact rfl; apply g_binOp; exact a_binI rfl rfl rfl; (with_reducible refine runs_done ?_); refine W.cond rfl (fun hc => ?_) (fun hc => ?_)
    · have hlt : i < l.length := by simp at hc; omega
      have ga : l[i]? = some l[i] := by simp [hlt]
      obtain ⟨hr22, hrv⟩ := hk l[i] (List.getElem_mem hlt)
      generalize l[i] = r at ga hr22 hrv
      obtain ⟨rk, rv⟩ := r
      dsimp only at hr22 hrv
      have hlm : (l.map eRow).length = l.length := List.length_map ..
      clear hc; refine W.skip ?_; show W _ _ _ _ _ _ _; refine W.seq ?_; refine W.block ?_; refine W.seq ?_; refine W.regionL (by decide +kernel) rfl ?_; apply r_op; exact rfl; exact rfl; apply a_move; (conv => (lhs; whnf)); apply r_op; exact rfl; exact rfl; apply a_move; (conv => (lhs; whnf)); apply r_op; exact rfl; exact rfl; apply g_indexAddr
      exact a_indexAddr rfl rfl (by decide) (by omega) (by exact get_map ga); apply r_op; exact rfl; exact rfl; apply g_load; exact a_loadA rfl (by rfl) rfl; apply r_alloc; exact rfl; exact rfl; decide; exact rfl; (conv => (lhs; whnf)); intro b1 hb1; apply r_store; exact rfl; exact rfl; exact rfl; decide; infer_instance; exact rfl; exact setBox_same; (conv => (lhs; whnf)); exact rfl
      (conv => (lhs; whnf)); exact rfl; exact of_decide_eq_true rfl; exact setL_whole rfl; refine runs_done ?_; show W _ _ _ _ _ _ _; refine W.seq ?_
      generalize b1 = b11 at *
      have hs11 := none_moves hma hb1
      rw [setBox_setBox]
      have hm1 : Moves σ .full (s.setBox b11 [.str rk, eBytes rv]) tk := hma.new hs11
      have hb11 : (s.setBox b11 [.str rk, eBytes rv]).box b11 = some [.str rk, eBytes rv] := setBox_same
      change W Tryd.prog w0 _ _ _ _ (s.setBox b11 [.str rk, eBytes rv])
      generalize s.setBox b11 [.str rk, eBytes rv] = s1 at hm1 hb11 ⊢
      clear hma hb1
      have hm0 := Moves.refl (σ := s1) (tk := tk) hm1.room
      have hacl : acc.length ≤ 2000 := by omega
      have hrow : RowFit ⟨rk, rv⟩ := ⟨hr22, by show rv.length ≤ 1001; omega⟩
      refine W.seq ?_; refine W.regionL (by decide +kernel) rfl ?_; apply r_op; exact rfl; exact rfl; apply a_move; (conv => (lhs; whnf)); apply r_op; exact rfl; exact rfl; apply a_move; (conv => (lhs; whnf)); apply r_op; exact rfl; exact rfl; apply g_convert; exact a_convI rfl; apply r_op; exact rfl; exact rfl; apply a_move; (conv => (lhs; whnf)); apply r_op; exact rfl; exact rfl; apply g_call
      exact a_len_slc rfl; apply r_op; exact rfl; exact rfl; apply g_binOp; exact a_rem rfl rfl (by omega); apply r_op; exact rfl; exact rfl; apply g_binOp; exact a_binI rfl rfl rfl; (with_reducible refine runs_done ?_); refine W.cond rfl (fun hc => ?_) (fun hc => ?_)
      · refine W.seq ?_
        refine W.regionL (by decide +kernel) rfl ?_; apply r_op; exact rfl; exact rfl; apply a_move; (conv => (lhs; whnf)); apply r_load; exact rfl; exact rfl; exact rfl; decide; exact rfl; assumption; exact aLoadA rfl (by rfl) rfl; apply r_op; exact rfl; exact rfl; apply g_buildSlice; apply a_build1; (conv => (lhs; whnf)); exact rfl; exact rfl; decide; apply r_append'; exact rfl; exact rfl; decide
        infer_instance; exact rfl; exact rfl; exact rfl; exact rfl; exact rfl; assumption
        simp only [length_aBytes, List.length_append, List.length_cons, List.length_nil, List.length_map, List.length_range]
        omega; intro tk1 σ1 hm; apply r_op; exact rfl; exact rfl; apply a_assign; (conv => (lhs; whnf)); (with_reducible refine runs_done ?_); refine W.exit ?_; show W _ _ _ _ _ _ _; refine W.regionL (by decide +kernel) rfl ?_; apply r_op; exact rfl; exact rfl; apply a_move; (conv => (lhs; whnf)); apply r_op; exact rfl; exact rfl; apply g_binOp; exact a_add64 rfl rfl (by omega); apply r_op; exact rfl
        exact rfl; apply a_assign; (conv => (lhs; whnf)); (with_reducible refine runs_done ?_)
        refine ⟨l.length - (i + 1), by omega, i + 1, acc ++ [⟨rk, rv⟩], tk1, by omega, rfl, by simp; omega, rows_snoc hrows hrow, hm1.trans hm, ?_⟩
        rw [List.map_append]
        exact Has.by (by repeat (first | exact trivial | refine ⟨by first | trivial | exact Weak.refl _ | exact Weak.tok _ _ _ | exact Weak.of_eq (congrArg (AV.int _) (by omega)) | exact Weak.of_eq (congrArg AV.bool (by fail)) | exact Weak.nils _ _ (.inr rfl), ?_⟩))
      clear hc; refine W.skip ?_; show W _ _ _ _ _ _ _; refine W.seq ?_
      refine W.meet (fun E s => ∃ (r' : Row) (acc' : List Row) (tk' : Tok), RowFit r' ∧ acc'.length ≤ acc.length + 1 ∧ (∀ x ∈ acc', RowFit x) ∧ s.box b11 = some [.str r'.key, eBytes r'.val] ∧ Moves σ .full s tk' ∧ Has [(0, .slc 2 (l.map eRow) .no), (1, .int .u16 a), (2, .int .u8 v.toNat), (3, .int .u8 how.toNat), (9, .slc 2 (acc'.map eRow) tk'), (10, .int .i64 i), (11, .ptr b11 0)] E) ?_ ?_
      · refine W.seq ?_
        refine W.regionL (by decide +kernel) rfl ?_; apply r_op; exact rfl; exact rfl; apply a_move; (conv => (lhs; whnf)); apply r_op; exact rfl; exact rfl; apply g_binOp; exact a_rem rfl rfl (by omega); (with_reducible refine runs_done ?_); refine W.block ?_; refine W.seq ?_; refine W.regionL (by decide +kernel) rfl ?_; apply r_op; exact rfl; exact rfl; apply g_binOp; exact a_binI rfl rfl rfl
        apply r_op; exact rfl; exact rfl; apply a_assign; (conv => (lhs; whnf)); (with_reducible refine runs_done ?_); refine W.cond rfl (fun hc => ?_) (fun hc => ?_)
        · have hbend : ∀ σ, CallW Tryd.prog w0 51 [.slc 1 (aBytes rv) .no, .int .u16 ((a : Int) / 256), .int .u8 v.toNat, .int .u8 ((how.toNat : Int) / 6)] σ (fun r s => ∃ u : List UInt8, r = .slc 1 (aBytes u) .no ∧ (u.length ≤ rv.length + 1 ∧ s = σ)) := fun σ => by
            have := bend_any w0 rv .no (a / 256) v (UInt8.ofNat (how.toNat / 6)) (by omega) (by omega) σ
            rw [show (UInt8.ofNat (how.toNat / 6)).toNat = how.toNat / 6 by simp; omega, show (((a / 256 : Nat)) : Int) = (a : Int) / 256 by omega, show (((how.toNat / 6 : Nat)) : Int) = (how.toNat : Int) / 6 by omega] at this
            exact this
          refine W.regionL (by decide +kernel) rfl ?_; apply r_op; exact rfl; exact rfl; apply g_fieldAddr; exact a_fieldAddrP rfl (by decide); apply r_load; exact rfl; exact rfl; exact rfl; decide; exact rfl; assumption; exact aLoad1 rfl; apply r_op; exact rfl; exact rfl; apply a_move; (conv => (lhs; whnf)); apply r_op; exact rfl; exact rfl; apply g_binOp; exact a_quo16 rfl rfl (by omega)
          apply r_op; exact rfl; exact rfl; apply a_move; (conv => (lhs; whnf)); apply r_op; exact rfl; exact rfl; apply a_move; (conv => (lhs; whnf)); apply r_op; exact rfl; exact rfl; apply g_binOp; exact a_quo8 rfl rfl (by omega); apply r_callX; exact rfl; exact rfl; decide; exact rfl; exact rfl; exact rfl; infer_instance; exact hbend _; rintro x1 σ1 ⟨hx1, rfl⟩; apply r_op; exact rfl; exact rfl
          apply g_fieldAddr; exact a_fieldAddrP rfl (by decide); apply r_store; exact rfl; exact rfl; exact rfl; decide; infer_instance; exact rfl; assumption; (conv => (lhs; whnf)); exact rfl; (conv => (lhs; whnf)); exact rfl; exact of_decide_eq_true rfl; exact rfl; (with_reducible refine runs_done ?_)
          exact ⟨⟨rk, x1⟩, acc, tk, ⟨hr22, by show x1.length ≤ 1001; omega⟩, by omega, hrows, setBox_same, hm1.new hs11, by exact Has.by (by repeat (first | exact trivial | refine ⟨by first | trivial | exact Weak.refl _ | exact Weak.tok _ _ _ | exact Weak.of_eq (congrArg (AV.int _) (by omega)) | exact Weak.of_eq (congrArg AV.bool (by fail)) | exact Weak.nils _ _ (.inr rfl), ?_⟩))⟩
        · clear hc
          refine W.seq ?_; refine W.regionL (by decide +kernel) rfl ?_; apply r_op; exact rfl; exact rfl; apply g_binOp; exact a_binI rfl rfl rfl; apply r_op; exact rfl; exact rfl; apply a_assign; (conv => (lhs; whnf)); (with_reducible refine runs_done ?_); refine W.cond rfl (fun hc => ?_) (fun hc => ?_)
          · refine W.exit ?_
            show W _ _ _ _ _ _ _; refine W.regionL (by decide +kernel) rfl ?_; apply r_op; exact rfl; exact rfl; apply a_move; (conv => (lhs; whnf)); apply r_op; exact rfl; exact rfl; apply g_binOp; exact a_add64 rfl rfl (by omega); apply r_op; exact rfl; exact rfl; apply a_assign; (conv => (lhs; whnf)); (with_reducible refine runs_done ?_)
            exact ⟨l.length - (i + 1), by omega, i + 1, acc, tk, by omega, rfl, by omega, hrows, hm1, by exact Has.by (by repeat (first | exact trivial | refine ⟨by first | trivial | exact Weak.refl _ | exact Weak.tok _ _ _ | exact Weak.of_eq (congrArg (AV.int _) (by omega)) | exact Weak.of_eq (congrArg AV.bool (by fail)) | exact Weak.nils _ _ (.inr rfl), ?_⟩))⟩
          clear hc; refine W.seq ?_; refine W.regionL (by decide +kernel) rfl ?_; apply r_op; exact rfl; exact rfl; apply g_binOp; exact a_binI rfl rfl rfl; apply r_op; exact rfl; exact rfl; apply a_assign; (conv => (lhs; whnf)); (with_reducible refine runs_done ?_); refine W.cond rfl (fun hc => ?_) (fun hc => ?_)
          · refine W.regionL (by decide +kernel) rfl ?_
            apply r_op; exact rfl; exact rfl; apply a_move; (conv => (lhs; whnf)); apply r_load; exact rfl; exact rfl; exact rfl; decide; exact rfl; assumption; exact aLoadA rfl (by rfl) rfl; apply r_op; exact rfl; exact rfl; apply g_buildSlice; apply a_build1; (conv => (lhs; whnf)); exact rfl; exact rfl; decide; apply r_append'; exact rfl; exact rfl; decide; infer_instance; exact rfl; exact rfl
            exact rfl; exact rfl; exact rfl; assumption
            simp only [length_aBytes, List.length_append, List.length_cons, List.length_nil, List.length_map, List.length_range]
            omega; intro tk1 σ1 hm; apply r_op; exact rfl; exact rfl; apply a_assign; (conv => (lhs; whnf)); (with_reducible refine runs_done ?_)
            refine ⟨⟨rk, rv⟩, acc ++ [⟨rk, rv⟩], tk1, hrow, by simp, rows_snoc hrows hrow, hm.box _ _ hb11, hm1.trans hm, ?_⟩
            rw [List.map_append]
            exact Has.by (by repeat (first | exact trivial | refine ⟨by first | trivial | exact Weak.refl _ | exact Weak.tok _ _ _ | exact Weak.of_eq (congrArg (AV.int _) (by omega)) | exact Weak.of_eq (congrArg AV.bool (by fail)) | exact Weak.nils _ _ (.inr rfl), ?_⟩))
          clear hc; refine W.seq ?_; refine W.regionL (by decide +kernel) rfl ?_; apply r_op; exact rfl; exact rfl; apply g_binOp; exact a_binI rfl rfl rfl; apply r_op; exact rfl; exact rfl; apply a_assign; (conv => (lhs; whnf)); (with_reducible refine runs_done ?_); refine W.cond rfl (fun hc => ?_) (fun hc => ?_)
          · have hw16 : IntKind.u16.wrap ((a : Int) % 22 + 1) = (a : Int) % 22 + 1 := IntWalk.u16_in _ (by omega)
            refine W.regionDK 1 [] Ty.mixed (by decide +kernel) (by decide +kernel) rfl ?_; apply r_op; exact rfl; exact rfl; apply g_fieldAddr; exact a_fieldAddrP rfl (by decide); apply r_load; exact rfl; exact rfl; exact rfl; decide; exact rfl; assumption; exact aLoad1 rfl; apply r_op; exact rfl; exact rfl; apply a_move; (conv => (lhs; whnf)); apply r_op; exact rfl; exact rfl; apply g_binOp
            exact a_rem rfl rfl (by omega); apply r_op; exact rfl; exact rfl; apply g_slice; exact a_sliceS rfl rfl rfl (by omega); apply r_op; exact rfl; exact rfl; apply a_move; (conv => (lhs; whnf)); apply r_op; exact rfl; exact rfl; apply g_binOp; exact a_rem rfl rfl (by omega); apply r_op; exact rfl; exact rfl; apply g_binOp; exact a_u8add rfl rfl; apply r_op; exact rfl; exact rfl
            apply g_buildSlice; apply a_build1; (conv => (lhs; whnf)); exact rfl; exact rfl; decide; apply r_op; exact rfl; exact rfl; apply g_convert; exact a_bytesStrX rfl (by apply toB_cons; exact toB_nil); apply r_op; exact rfl; exact rfl; apply g_binOp; exact a_addS rfl rfl (by simp only [List.length_append, List.length_drop, List.length_take, List.length_cons, List.length_nil]; omega)
            apply r_op; exact rfl; exact rfl; apply g_fieldAddr; exact a_fieldAddrP rfl (by decide); apply r_load; exact rfl; exact rfl; exact rfl; decide; exact rfl; assumption; exact aLoad1 rfl; apply r_op; exact rfl; exact rfl; apply a_move; (conv => (lhs; whnf)); apply r_op; exact rfl; exact rfl; apply g_binOp; exact a_rem rfl rfl (by omega); apply r_op; exact rfl; exact rfl; apply g_binOp
            exact a_binI rfl rfl rfl; apply r_op; exact rfl; exact rfl; apply g_slice; exact a_sliceS rfl rfl rfl (by omega); apply r_op; exact rfl; exact rfl; apply g_binOp; exact a_addS rfl rfl (by simp only [List.length_append, List.length_drop, List.length_take, List.length_cons, List.length_nil]; omega); apply r_op; exact rfl; exact rfl; apply g_fieldAddr; exact a_fieldAddrP rfl (by decide)
            apply r_store; exact rfl; exact rfl; exact rfl; decide; infer_instance; exact rfl; assumption; (conv => (lhs; whnf)); exact rfl; (conv => (lhs; whnf)); exact rfl; exact of_decide_eq_true rfl; exact rfl; (with_reducible refine runs_done ?_)
            refine ⟨⟨_, rv⟩, acc, tk, ⟨?_, by show rv.length ≤ 1001; omega⟩, by omega, hrows, setBox_same, hm1.new hs11, by exact Has.by (by repeat (first | exact trivial | refine ⟨by first | trivial | exact Weak.refl _ | exact Weak.tok _ _ _ | exact Weak.of_eq (congrArg (AV.int _) (by omega)) | exact Weak.of_eq (congrArg AV.bool (by fail)) | exact Weak.nils _ _ (.inr rfl), ?_⟩))⟩
            simp only [List.length_append, List.length_drop, List.length_take, List.length_cons, List.length_nil]
            omega
          clear hc; refine W.seq ?_; refine W.regionL (by decide +kernel) rfl ?_; apply r_op; exact rfl; exact rfl; apply g_binOp; exact a_binI rfl rfl rfl; apply r_op; exact rfl; exact rfl; apply a_assign; (conv => (lhs; whnf)); (with_reducible refine runs_done ?_); refine W.cond rfl (fun hc => ?_) (fun hc => ?_)
          · refine W.regionDK 1 [] Ty.mixed (by decide +kernel) (by decide +kernel) rfl ?_
            apply r_op; exact rfl; exact rfl; apply g_fieldAddr; exact a_fieldAddrP rfl (by decide); apply r_load; exact rfl; exact rfl; exact rfl; decide; exact rfl; assumption; exact aLoad1 rfl; apply r_op; exact rfl; exact rfl; apply g_slice; exact a_sliceS rfl rfl rfl (by omega); apply r_op; exact rfl; exact rfl; apply a_move; (conv => (lhs; whnf)); apply r_op; exact rfl; exact rfl
            apply g_binOp; exact a_rem rfl rfl (by omega); apply r_op; exact rfl; exact rfl; apply g_binOp; exact a_u8add rfl rfl; apply r_op; exact rfl; exact rfl; apply g_buildSlice; apply a_build1; (conv => (lhs; whnf)); exact rfl; exact rfl; decide; apply r_op; exact rfl; exact rfl; apply g_convert; exact a_bytesStrX rfl (by apply toB_cons; exact toB_nil); apply r_op; exact rfl; exact rfl
            apply g_binOp; exact a_addS rfl rfl (by simp only [List.length_append, List.length_drop, List.length_take, List.length_cons, List.length_nil]; omega); apply r_op; exact rfl; exact rfl; apply g_fieldAddr; exact a_fieldAddrP rfl (by decide); apply r_load; exact rfl; exact rfl; exact rfl; decide; exact rfl; assumption; exact aLoad1 rfl; apply r_op; exact rfl; exact rfl; apply g_slice
            exact a_sliceS rfl rfl rfl (by omega); apply r_op; exact rfl; exact rfl; apply g_binOp; exact a_addS rfl rfl (by simp only [List.length_append, List.length_drop, List.length_take, List.length_cons, List.length_nil]; omega); apply r_op; exact rfl; exact rfl; apply g_fieldAddr; exact a_fieldAddrP rfl (by decide); apply r_store; exact rfl; exact rfl; exact rfl; decide; infer_instance
            exact rfl; assumption; (conv => (lhs; whnf)); exact rfl; (conv => (lhs; whnf)); exact rfl; exact of_decide_eq_true rfl; exact rfl; (with_reducible refine runs_done ?_)
            refine ⟨⟨_, rv⟩, acc, tk, ⟨?_, by show rv.length ≤ 1001; omega⟩, by omega, hrows, setBox_same, hm1.new hs11, by exact Has.by (by repeat (first | exact trivial | refine ⟨by first | trivial | exact Weak.refl _ | exact Weak.tok _ _ _ | exact Weak.of_eq (congrArg (AV.int _) (by omega)) | exact Weak.of_eq (congrArg AV.bool (by fail)) | exact Weak.nils _ _ (.inr rfl), ?_⟩))⟩
            simp only [List.length_append, List.length_drop, List.length_take, List.length_cons, List.length_nil]
            omega
          clear hc; refine W.skip ?_
          exact ⟨⟨rk, rv⟩, acc, tk, hrow, by omega, hrows, hb11, hm1, by exact Has.by (by repeat (first | exact trivial | refine ⟨by first | trivial | exact Weak.refl _ | exact Weak.tok _ _ _ | exact Weak.of_eq (congrArg (AV.int _) (by omega)) | exact Weak.of_eq (congrArg AV.bool (by fail)) | exact Weak.nils _ _ (.inr rfl), ?_⟩))⟩
      · rintro E s ⟨r', acc', tk', hr', hal', hrows', hb, hm2, hE⟩
        refine W.has hE ?_; clear hE hm0
        have hm0 := Moves.refl (σ := s) (tk := tk') hm2.room
        have hacl' : acc'.length ≤ 3000 := by omega
        refine W.regionL (by decide +kernel) rfl ?_; apply r_op; exact rfl; exact rfl; apply a_move; (conv => (lhs; whnf)); apply r_load; exact rfl; exact rfl; exact rfl; decide; exact rfl; assumption; exact aLoadA rfl (by rfl) rfl; apply r_op; exact rfl; exact rfl; apply g_buildSlice; apply a_build1; (conv => (lhs; whnf)); exact rfl; exact rfl; decide; apply r_append'; exact rfl; exact rfl; decide
        infer_instance; exact rfl; exact rfl; exact rfl; exact rfl; exact rfl; assumption
        simp only [length_aBytes, List.length_append, List.length_cons, List.length_nil, List.length_map, List.length_range]
        omega; intro tk1 σ1 hm; apply r_op; exact rfl; exact rfl; apply a_assign; (conv => (lhs; whnf)); (with_reducible refine runs_done ?_); refine W.regionL (by decide +kernel) rfl ?_; apply r_op; exact rfl; exact rfl; apply a_move; (conv => (lhs; whnf)); apply r_op; exact rfl; exact rfl; apply g_binOp; exact a_add64 rfl rfl (by omega); apply r_op; exact rfl; exact rfl; apply a_assign
        (conv => (lhs; whnf)); (with_reducible refine runs_done ?_)
        refine ⟨l.length - (i + 1), by omega, i + 1, acc' ++ [r'], tk1, by omega, rfl, by simp; omega, rows_snoc hrows' hr', hm2.trans hm, ?_⟩
        rw [List.map_append]
        exact Has.by (by repeat (first | exact trivial | refine ⟨by first | trivial | exact Weak.refl _ | exact Weak.tok _ _ _ | exact Weak.of_eq (congrArg (AV.int _) (by omega)) | exact Weak.of_eq (congrArg AV.bool (by fail)) | exact Weak.nils _ _ (.inr rfl), ?_⟩))
    · refine W.exit ?_
      exact ⟨acc, tk, by omega, hrows, hma, by exact Has.by (by repeat (first | exact trivial | refine ⟨by first | trivial | exact Weak.refl _ | exact Weak.tok _ _ _ | exact Weak.of_eq (congrArg (AV.int _) (by omega)) | exact Weak.of_eq (congrArg AV.bool (by fail)) | exact Weak.nils _ _ (.inr rfl), ?_⟩))⟩
  · rintro E s ⟨acc, tk, hal, hrows, hma, hE⟩
    refine W.has hE ?_; clear hE; refine W.seq ?_; refine W.regionL (by decide +kernel) rfl ?_; apply r_op; exact rfl; exact rfl; apply a_move; (conv => (lhs; whnf)); apply r_op; exact rfl; exact rfl; apply a_assign; (conv => (lhs; whnf)); (with_reducible refine runs_done ?_); refine W.ret ?_; show Q Exit.ret _ _
    refine post_le (σ' := σ) (r := .slc 2 (acc.map eRow) .no) hQ (by apply res_tmp; exact rfl; exact res_nil) rfl (.tok _ _ _) hma.le ⟨acc, rfl, ⟨by omega, hrows⟩, rfl⟩ (.inl rfl)
end Go.Proofs.YtkbmkhhcppfcnaaDoor
end
section
set_option linter.unusedVariables false
set_option linter.unusedSimpArgs false
set_option maxRecDepth 100000
set_option maxHeartbeats 2000000
namespace Go.Proofs.YtkbmkhhcppfcnaaDoor
open Go.Al Go.RowKit
theorem tot_bound : ∀ (l : List Row) (n : Nat), (∀ r ∈ l, r.val.length ≤ n) → tot l ≤ l.length * (n + 1)
  | [], n, _ => by simp [tot]
  | r :: l, n, h => by
    have h1 := tot_bound l n fun x hx => h x (by simp [hx])
    have h2 := h r (by simp)
    have h3 : tot (r :: l) = r.val.length + 1 + tot l := by simp [tot]
    have h4 : (r :: l).length * (n + 1) = l.length * (n + 1) + (n + 1) := by simp [Nat.add_mul, Nat.add_comm]
    omega
theorem enc3_few {id clock next : Nat} {x : Sub} (h : Grown id clock next x) : (enc3 x).length ≤ 32 := by
  have h1 := h.nqueue
  have h2 := preR_len x
  rw [enc3_eq]; simp; omega
theorem threeBack_any (w0 : World) (hL : Laid w0) (c : List UInt8) (t : Tok) (k : UInt8) (a : Nat) (v how : UInt8) (hc : c.length ≤ 9223372036854775807) (ha : a < 65536) (σ : St) : CallW Tryd.prog w0 4 [.slc 1 (aBytes c) t, .int .u8 k.toNat, .int .u16 a, .int .u8 v.toNat, .int .u8 how.toNat] σ (fun r _ => r = .bool true) := by
  refine CallW.start Tryd.func4 rfl Tryd.ntmps4 (by simp) fun Q hQ => ?_
  have hk := k.toNat_lt
  refine W.seq ?_; refine W.regionL (by decide +kernel) rfl ?_; apply r_op; exact rfl; exact rfl; apply a_assign; (conv => (lhs; whnf)); refine runs_done ?_; show W _ _ _ _ _ _ _; refine W.seq ?_; refine W.regionL (by decide +kernel) rfl ?_; apply r_op; exact rfl; exact rfl; apply a_move; (conv => (lhs; whnf)); apply r_op; exact rfl; exact rfl; apply a_move; (conv => (lhs; whnf)); apply r_callX
  exact rfl; exact rfl; decide; exact rfl; exact rfl; exact rfl; infer_instance; exact lawsub_any w0 c t k hc _; rintro x1 σ1 ⟨hx1, rfl⟩; apply r_alloc; exact rfl; exact rfl; decide; exact rfl; (conv => (lhs; whnf)); intro b1 hb1; apply r_store; exact rfl; exact rfl; exact rfl; decide; infer_instance; exact rfl; exact setBox_same; (conv => (lhs; whnf)); exact rfl; (conv => (lhs; whnf)); exact rfl
  exact of_decide_eq_true rfl; exact setL_whole rfl; refine runs_done ?_; show W _ _ _ _ _ _ _; refine W.freeze1 11 (eSub x1) (by assumption) rfl rfl rfl ?_; clear hb1
  have hg : Grown (1 + k.toNat) 9 (2 + k.toNat) x1 := hx1
  have hfx := hg.fits
  have henc := encW_p w0 hL x1 hfx
  have hrow := fun r hr => enc3_row (r := r) hg (by omega) hr
  have hfew := enc3_few hg
  have hT1 := tot_bound (enc3 x1) 150 fun r hr => (hrow r hr).2
  have hT : tot (enc3 x1) ≤ 100000 := by omega
  have hk22 : ∀ r ∈ enc3 x1, r.key.length = 22 ∧ r.val.length ≤ 1000 := fun r hr => by
    obtain ⟨⟨u, q, _, e⟩, h2⟩ := hrow r hr
    exact ⟨by rw [e, rkey_length], by omega⟩
  have hdec := decode_any w0 hL (enc3 x1) hT fun r hr => by have := (hk22 r hr).1; omega
  rw [dec3_back hg (by omega) (by omega) (by omega)] at hdec
  have hsame := sameSub_any w0 x1 x1 (by have := hg.nqueue; omega) (by have := hg.nacks; omega)
  rw [show decide (x1 = x1) = true by simp] at hsame
  have hbent := fun σ => bent3_any w0 (enc3 x1) a v how (by omega) hk22 ha σ
  clear hrow hT1 hT hk22 hx1
  generalize enc3 x1 = l at henc hdec hbent hfew
  refine W.seq ?_; refine W.regionL (by decide +kernel) rfl ?_; apply r_op; exact rfl; exact rfl; apply g_load; exact a_loadA rfl (by rfl) rfl; apply r_callP; exact rfl; exact rfl; exact rfl; exact rfl; exact rfl; infer_instance; exact henc; apply r_op; exact rfl; exact rfl; apply a_assign; (conv => (lhs; whnf)); refine runs_done ?_; show W _ _ _ _ _ _ _; refine W.seq ?_
  refine W.regionL (by decide +kernel) rfl ?_; apply r_op; exact rfl; exact rfl; apply a_move; (conv => (lhs; whnf)); apply r_callP; exact rfl; exact rfl; exact rfl; exact rfl; exact rfl; infer_instance; exact hdec; apply r_op; exact rfl; exact rfl; apply a_move; (conv => (lhs; whnf)); apply r_op; exact rfl; exact rfl; apply g_extract; exact a_extract rfl rfl; apply r_op; exact rfl; exact rfl
  apply g_extract; exact a_extract rfl rfl; apply r_alloc; exact rfl; exact rfl; decide; exact rfl; (conv => (lhs; whnf)); intro b1 hb1; apply r_store; exact rfl; exact rfl; exact rfl; decide; infer_instance; exact rfl; exact setBox_same; (conv => (lhs; whnf)); exact rfl; (conv => (lhs; whnf)); exact rfl; exact of_decide_eq_true rfl; exact setL_whole rfl; apply r_op; exact rfl; exact rfl
  apply a_assign; (conv => (lhs; whnf)); refine runs_done ?_; show W _ _ _ _ _ _ _; refine W.freeze1 13 (eSub x1) (by assumption) rfl rfl rfl ?_; clear hb1; refine W.seq ?_; refine W.seq ?_; refine W.regionL (by decide +kernel) rfl ?_; apply r_op; exact rfl; exact rfl; apply a_move; (conv => (lhs; whnf)); apply r_op; exact rfl; exact rfl; apply g_binOp; exact a_binI rfl rfl rfl; apply r_op
  exact rfl; exact rfl; apply a_move; (conv => (lhs; whnf)); apply r_op; exact rfl; exact rfl; apply g_load; exact a_loadA rfl (by rfl) rfl; apply r_op; exact rfl; exact rfl; apply g_load; exact a_loadA rfl (by rfl) rfl; apply r_callP; exact rfl; exact rfl; exact rfl; exact rfl; exact rfl; infer_instance; exact hsame; apply r_op; exact rfl; exact rfl; apply g_unOp; exact a_not rfl; apply r_op
  exact rfl; exact rfl; apply g_pick; apply a_pickF rfl (by exact rfl); (conv => (lhs; whnf)); refine runs_done ?_; show W _ _ _ _ _ _ _; refine W.condF rfl (by exact rfl) ?_; refine W.skip ?_; show W _ _ _ _ _ _ _; refine W.seq ?_; refine W.regionL (by decide +kernel) rfl ?_; apply r_op; exact rfl; exact rfl; apply a_move; (conv => (lhs; whnf)); apply r_op; exact rfl; exact rfl; apply a_move
  (conv => (lhs; whnf)); apply r_op; exact rfl; exact rfl; apply a_move; (conv => (lhs; whnf)); apply r_op; exact rfl; exact rfl; apply a_move; (conv => (lhs; whnf)); apply r_callX; exact rfl; exact rfl; decide; exact rfl; exact rfl; exact rfl; infer_instance; exact hbent _; rintro x1 σ1 ⟨hx1, rfl⟩; apply r_op; exact rfl; exact rfl; apply a_assign; (conv => (lhs; whnf)); refine runs_done ?_
  show W _ _ _ _ _ _ _
  obtain ⟨hml, hmr⟩ := hx1
  clear hbent henc hdec hsame
  have hTb := tot_bound x1 1001 fun r hr => (hmr r hr).2
  have hTm : tot x1 ≤ 100000 := by omega
  have hd2 := decode_any w0 hL x1 hTm fun r hr => by have := (hmr r hr).1; omega
  have hfz := dSub_fits x1 hTm
  by_cases h : (dRows x1 x1.length).good = true ∧ enc3 (dSub x1) = x1
  · rw [dec3, if_pos h] at hd2
    have he2 := encW_p w0 hL (dSub x1) hfz
    rw [h.2] at he2
    have hs2 := sameRows_any w0 x1 x1 (by omega)
    rw [show decide (x1 = x1) = true by simp] at hs2
    generalize dSub x1 = z at hd2 he2
    refine W.seq ?_; refine W.regionL (by decide +kernel) rfl ?_; apply r_op; exact rfl; exact rfl; apply a_move; (conv => (lhs; whnf)); apply r_callP; exact rfl; exact rfl; exact rfl; exact rfl; exact rfl; infer_instance; exact hd2; apply r_op; exact rfl; exact rfl; apply a_move; (conv => (lhs; whnf)); apply r_op; exact rfl; exact rfl; apply g_extract; exact a_extract rfl rfl; apply r_op
    exact rfl; exact rfl; apply g_extract; exact a_extract rfl rfl; apply r_alloc; exact rfl; exact rfl; decide; exact rfl; (conv => (lhs; whnf)); intro b1 hb1; apply r_store; exact rfl; exact rfl; exact rfl; decide; infer_instance; exact rfl; exact setBox_same; (conv => (lhs; whnf)); exact rfl; (conv => (lhs; whnf)); exact rfl; exact of_decide_eq_true rfl; exact setL_whole rfl; apply r_op
    exact rfl; exact rfl; apply a_assign; (conv => (lhs; whnf)); refine runs_done ?_; show W _ _ _ _ _ _ _; refine W.freeze1 16 (eSub z) (by assumption) rfl rfl rfl ?_; refine W.seq ?_; refine W.regionL (by decide +kernel) rfl ?_; apply r_callP; exact rfl; exact rfl; exact rfl; exact rfl; exact rfl; infer_instance; exact known_any w0 hL; apply r_op; exact rfl; exact rfl; apply a_move
    (conv => (lhs; whnf)); apply r_op; exact rfl; exact rfl; apply a_move; (conv => (lhs; whnf)); apply r_op; exact rfl; exact rfl; apply g_binOp; exact a_binI rfl rfl rfl; apply r_op; exact rfl; exact rfl; apply a_move; (conv => (lhs; whnf)); apply r_op; exact rfl; exact rfl; apply g_load; exact a_loadA rfl (by rfl) rfl; apply r_callP; exact rfl; exact rfl; exact rfl; exact rfl; exact rfl
    infer_instance; exact he2; apply r_op; exact rfl; exact rfl; apply a_move; (conv => (lhs; whnf)); apply r_callP; exact rfl; exact rfl; exact rfl; exact rfl; exact rfl; infer_instance; exact hs2; apply r_op; exact rfl; exact rfl; apply g_pick; apply a_pickF rfl (by exact rfl); (conv => (lhs; whnf)); apply r_op; exact rfl; exact rfl; apply g_pick; apply a_pickT rfl (by exact rfl)
    (conv => (lhs; whnf)); apply r_op; exact rfl; exact rfl; apply a_assign; (conv => (lhs; whnf)); (with_reducible refine runs_done ?_); refine W.ret ?_; show Q Exit.ret _ _; refine post_p hQ rfl rfl ?_; (conv => (lhs; whnf))
  · rw [dec3, if_neg h] at hd2
    refine W.seq ?_; refine W.regionL (by decide +kernel) rfl ?_; apply r_op; exact rfl; exact rfl; apply a_move; (conv => (lhs; whnf)); apply r_callP; exact rfl; exact rfl; exact rfl; exact rfl; exact rfl; infer_instance; exact hd2; apply r_op; exact rfl; exact rfl; apply a_move; (conv => (lhs; whnf)); apply r_op; exact rfl; exact rfl; apply g_extract; exact a_extract rfl rfl; apply r_op
    exact rfl; exact rfl; apply g_extract; exact a_extract rfl rfl; apply r_alloc; exact rfl; exact rfl; decide; exact rfl; (conv => (lhs; whnf)); intro b1 hb1; apply r_store; exact rfl; exact rfl; exact rfl; decide; infer_instance; exact rfl; exact setBox_same; (conv => (lhs; whnf)); exact rfl; (conv => (lhs; whnf)); exact rfl; exact of_decide_eq_true rfl; exact setL_whole rfl; apply r_op
    exact rfl; exact rfl; apply a_assign; (conv => (lhs; whnf)); refine runs_done ?_; show W _ _ _ _ _ _ _; refine W.freeze1 16 (eSub sub0) (by assumption) rfl rfl rfl ?_; refine W.seq ?_; refine W.regionL (by decide +kernel) rfl ?_; apply r_callP; exact rfl; exact rfl; exact rfl; exact rfl; exact rfl; infer_instance; exact known_any w0 hL; apply r_op; exact rfl; exact rfl; apply a_move
    (conv => (lhs; whnf)); apply r_op; exact rfl; exact rfl; apply a_move; (conv => (lhs; whnf)); apply r_op; exact rfl; exact rfl; apply g_binOp; exact a_binI rfl rfl rfl; apply r_op; exact rfl; exact rfl; apply a_move; (conv => (lhs; whnf)); apply q_skip; exact rfl; exact want_f rfl rfl rfl (by exact rfl); apply q_skip; exact rfl; exact want_f rfl rfl rfl (by exact rfl); apply q_skip; exact rfl
    exact want_f rfl rfl rfl (by exact rfl); apply q_skip; exact rfl; exact want_f rfl rfl rfl (by exact rfl); apply r_op; exact rfl; exact rfl; apply g_pick; apply a_pickT rfl (by exact rfl); (conv => (lhs; whnf)); apply r_op; exact rfl; exact rfl; apply g_pick; apply a_pickT rfl (by exact rfl); (conv => (lhs; whnf)); apply r_op; exact rfl; exact rfl; apply a_assign; (conv => (lhs; whnf))
    (with_reducible refine runs_done ?_); refine W.ret ?_; show Q Exit.ret _ _; refine post_p hQ rfl rfl ?_; (conv => (lhs; whnf))
end Go.Proofs.YtkbmkhhcppfcnaaDoor
end
section
set_option linter.unusedVariables false
set_option linter.unusedSimpArgs false
set_option maxRecDepth 100000
set_option maxHeartbeats 1000000
namespace Go.Proofs.YtkbmkhhcppfcnaaDoor
open Go.Al Go.RowKit
theorem twoBack_any (w0 : World) (hL : Laid w0) (c : List UInt8) (t : Tok) (k : UInt8) (a : Nat) (v how : UInt8) (hc : c.length ≤ 9223372036854775807) (ha : a < 65536) (σ : St) : CallW Tryd.prog w0 10 [.slc 1 (aBytes c) t, .int .u8 k.toNat, .int .u16 a, .int .u8 v.toNat, .int .u8 how.toNat] σ (fun r _ => r = .bool true) := by
  have hk := k.toNat_lt
  refine CallW.x Ty.tok Ty.mixed Tryd.func10 rfl Tryd.ntmps10 rfl (by simp) (by decide +kernel) (.nil σ) ?_; (conv => whnf); refine SCall.w (by exact lawsub2_any w0 c t k hc _) rfl ?_; rintro r s ⟨x1, rfl, hx1, hs1⟩ hB
  replace hs1 := hs1.symm
  subst hs1
  refine ⟨_, hB, ?_⟩; clear hB; (conv => whnf); intro b1 hb1; (conv => whnf); refine SStore.on 0 rfl ?_; (conv => whnf); refine SLoad.on 0 rfl ?_; (conv => whnf)
  generalize x1 = x at hx1 ⊢
  clear x1
  have hg : Grown (1 + k.toNat) 9 (2 + k.toNat) x := hx1
  have hfx := hg.fits
  have hgd := hg.good2 (by omega) (by omega) (by omega)
  have henc := enc2_p w0 hL x hfx
  have hrow := fun r hr => enc2_row (r := r) hg (by omega) hr
  have hnq := hg.nqueue
  have hfew : (enc2 x).length ≤ 93 := by have := enc2_few x; omega
  have hT1 := tot_bound (enc2 x) 150 fun r hr => (hrow r hr).2
  have hT : tot (enc2 x) ≤ 100000 := by omega
  have hk22 : ∀ r ∈ enc2 x, r.key.length = 22 ∧ r.val.length ≤ 300 := fun r hr => by
    obtain ⟨⟨u, q, _, e⟩, h2⟩ := hrow r hr
    exact ⟨by rw [e, rkey_length], by omega⟩
  have hdec := dec2_p w0 hL (enc2 x) .no hT fun r hr => by have := (hk22 r hr).1; omega
  rw [dec2_back hgd] at hdec
  dsimp only at hdec
  have hsame := sameSub_any w0 x x (by have := hg.nqueue; omega) (by have := hg.nacks; omega)
  rw [show decide (x = x) = true by simp] at hsame
  have hbent := fun σ => bent2_any w0 (enc2 x) a v how (by omega) hk22 ha σ
  clear hrow hT1 hT hk22 hx1 hgd
  generalize enc2 x = l at henc hdec hbent hfew
  refine SCall.p (by exact henc) ?_; (conv => whnf); refine SCall.p (by exact hdec) ?_; (conv => whnf); intro b1 hb1; (conv => whnf); refine SStore.on 0 rfl ?_; (conv => whnf); refine SCond.n (by exact rfl) ?_; (conv => whnf); refine SLoad.on 1 rfl ?_; (conv => whnf); refine SCond.n (by exact rfl) ?_; (conv => whnf); refine SLoad.on 0 rfl ?_; (conv => whnf); refine SCond.n (by exact rfl) ?_
  (conv => whnf); refine SCall.p (by exact hsame) ?_; (conv => whnf); refine SCond.n (by exact rfl) ?_; (conv => whnf); refine SPick.n (by exact rfl) ?_; (conv => whnf); refine SIf.n Ty.mixed (by exact rfl) ?_; (conv => whnf); refine SCall.w (by exact hbent _) rfl ?_; rintro r s ⟨x1, rfl, hx1, hs1⟩ hB
  replace hs1 := hs1.symm
  subst hs1
  refine ⟨_, hB, ?_⟩; clear hB; (conv => whnf)
  obtain ⟨hml, hmr⟩ := hx1
  clear hbent henc hdec hsame
  have hTb := tot_bound x1 301 fun r hr => (hmr r hr).2
  have hTm : tot x1 ≤ 100000 := by omega
  have hd2 := dec2_p w0 hL x1 .no hTm fun r hr => by have := (hmr r hr).1; omega
  have hfz := fin2_fits x1 hTm
  by_cases h : upTo x1 x1.length = true ∧ enc2 (fin2 x1) = x1
  · rw [dec2, if_pos h] at hd2
    dsimp only at hd2
    have he2 := enc2_p w0 hL (fin2 x1) hfz
    rw [h.2] at he2
    have hs2 := sameRows_any w0 x1 x1 (by omega)
    rw [show decide (x1 = x1) = true by simp] at hs2
    generalize fin2 x1 = z at hd2 he2
    refine SCall.p (by exact hd2) ?_; (conv => whnf); intro b1 hb1; (conv => whnf); refine SStore.on 0 rfl ?_; (conv => whnf); refine SCall.p (by exact known2_any w0 hL) ?_; (conv => whnf); refine SCond.y (by exact rfl) ?_; (conv => whnf); refine SCond.y (by exact rfl) ?_; (conv => whnf); refine SCond.y (by exact rfl) ?_; (conv => whnf); refine SCond.n (by exact rfl) ?_; (conv => whnf)
    refine SLoad.on 0 rfl ?_; (conv => whnf); refine SCond.n (by exact rfl) ?_; (conv => whnf); refine SCall.p (by exact he2) ?_; (conv => whnf); refine SCond.n (by exact rfl) ?_; (conv => whnf); refine SCond.n (by exact rfl) ?_; (conv => whnf); refine SCall.p (by exact hs2) ?_; (conv => whnf); refine SCond.y (by exact rfl) ?_; (conv => whnf); refine SPick.n (by exact rfl) ?_; (conv => whnf)
    refine SPick.y (by exact rfl) ?_; (conv => whnf); exact .w rfl
  · rw [dec2, if_neg h] at hd2
    dsimp only at hd2
    refine SCall.p (by exact hd2) ?_; (conv => whnf); intro b1 hb1; (conv => whnf); refine SStore.on 0 rfl ?_; (conv => whnf); refine SCall.p (by exact known2_any w0 hL) ?_; (conv => whnf); refine SCond.y (by exact rfl) ?_; (conv => whnf); refine SCond.y (by exact rfl) ?_; (conv => whnf); refine SCond.y (by exact rfl) ?_; (conv => whnf); refine SCond.y (by exact rfl) ?_; (conv => whnf)
    refine SCond.y (by exact rfl) ?_; (conv => whnf); refine SCond.y (by exact rfl) ?_; (conv => whnf); refine SCond.y (by exact rfl) ?_; (conv => whnf); refine SCond.y (by exact rfl) ?_; (conv => whnf); refine SPick.y (by exact rfl) ?_; (conv => whnf); refine SPick.y (by exact rfl) ?_; (conv => whnf); exact .w rfl
end Go.Proofs.YtkbmkhhcppfcnaaDoor
end
