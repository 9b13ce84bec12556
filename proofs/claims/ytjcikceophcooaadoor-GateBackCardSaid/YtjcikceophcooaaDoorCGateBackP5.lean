/- The law GateBack returns true for every input, and its arguments read as before: the tied card. No conditions. This is part 5 of 6 of its proof; the parts are read in order. No conditions. -/
import Derived.Test.YtjcikceophcooaaDoorCGateBackP4
import Derived.ProofKit
section
set_option linter.unusedVariables false
set_option linter.unusedSimpArgs false
set_option maxRecDepth 100000
set_option maxHeartbeats 4000000
namespace Go.Proofs.YtjcikceophcooaaDoor
open Go.Al Go.RowKit
def fldV : List Nat → AV
  | [] => .nils
  | l => .slc 1 (l.map fun f : Nat => AV.int .i64 ((f : Nat) : Int)) .full
def fV (p : List UInt8 × List Nat) : AV := .agg [.str p.1, fldV p.2]
theorem forms_any (w0 : Base) : CallP Tryd.prog w0 35 [] (.slc 2 (formsL.map fV) .full) := by
  refine CallP.h Ty.tok Ty.mixed Tryd.func35 rfl Tryd.ntmps35 rfl (by simp) (by decide +kernel) fun σ => ?_
  (conv => whnf); refine Hid.seq ?_; refine Hid.reg ?_; (conv => whnf); refine Hid.seq ?_; refine Hid.reg ?_; (conv => whnf); refine Hid.seq ?_; refine Hid.reg ?_; (conv => whnf); refine Hid.seq ?_; refine Hid.reg ?_; (conv => whnf); refine Hid.ret ?_; (conv => whnf)
  skip
  exact .p (.refl _) rfl
def parseT (line : List UInt8) : OpV × Nat := match pcs 32 line with
  | w0 :: ws => parseAt formsL 0 w0 ws
  | [] => (op0, 70)
theorem pcs_mem_len32 : ∀ (l : List UInt8), ∀ p ∈ pcs 32 l, p.length ≤ l.length
  | [], p, h => by simp [pcs] at h; subst h; simp
  | b :: l, p, h => by
    have ih := pcs_mem_len32 l
    rw [pcs] at h
    split at h
    · rcases List.mem_cons.1 h with rfl | h
      · simp
      · have := ih p h; simp; omega
    · split at h
      · rename_i q qs e
        rcases List.mem_cons.1 h with rfl | h
        · have := ih q (by rw [e]; simp); simp; omega
        · have := ih p (by rw [e]; simp [h]); simp; omega
      · simp at h; subst h; simp
theorem strs_len8 (l : List (List UInt8)) : (strs l).length = l.length := by simp [strs]
theorem weak_opK (k : Int) : Weak (eOp (opK k)) (.agg (oC (opK k) .nils)) :=
  .agg (.cons (.refl _) (.cons (.refl _) (.cons (.refl _) (.cons (.refl _) (.cons (.refl _) (.cons (.refl _) (.cons (.refl _) (.cons (.refl _) (.cons (.refl _) (.cons (.nils 1 .no (.inl rfl)) .nil)))))))))) (by simp [oC, AV.one, dB])
theorem weak_cells (k : Int) : WeakL (oC (opK k) (dB [])) (oC (opK k) .nils) :=
  .cons (.refl _) (.cons (.refl _) (.cons (.refl _) (.cons (.refl _) (.cons (.refl _) (.cons (.refl _) (.cons (.refl _) (.cons (.refl _) (.cons (.refl _) (.cons (.nils 1 .no (.inl rfl)) .nil)))))))))
theorem forms_fld : ∀ p ∈ formsL, p.2.length ≤ 5 ∧ ∀ f ∈ p.2, f < 9 := by decide
theorem parse_any (w0 : Base) (hL : Laid w0) (line : List UInt8) (hs : line.length ≤ 1000000000) : CallP Tryd.prog w0 21 [.str line] (.tup [eOp (parseT line).1, .int .u16 (parseT line).2]) := fun σ => by
  have hsp := split_any w0 line 32 (by omega)
  have hml := fun p hp => Nat.le_trans (pcs_mem_len32 line p hp) hs
  have hpl := pcs_len 32 line
  rw [parseT]
  cases hp : pcs 32 line with
  | nil => exact absurd hp (pcs_ne 32 line)
  | cons x ws =>
  rw [hp] at hsp hml hpl
  dsimp only
  have hfo := forms_any w0
  have hfl := forms_fld
  have hf20 : formsL.length = 20 := rfl
  generalize formsL = fl at *
  refine CallW.h (B := []) Ty.tok Ty.mixed Tryd.func21 rfl Tryd.ntmps21 rfl (by simp) (by decide +kernel) (.nil σ) ?_; (conv => whnf); refine Hid.seq ?_; refine Hid.reg ?_; (conv => whnf); intro b2 hb2; (conv => whnf); refine Hid.seq ?_; refine Hid.reg ?_; (conv => whnf); refine SCall.p (by exact hsp) ?_; (conv => whnf); refine Hid.seq ?_; refine Hid.seq ?_
  refine Hid.reg ?_; (conv => whnf); refine SCall.p (by exact hfo) ?_; (conv => whnf); refine Hid.block ?_; refine Hid.loop ?_
  have hle0 : St.Le σ (σ.setBox b2 (oC op0 .nils)) := le_new (.refl _) hb2
  have hln : (fl.map fV).length = fl.length := by simp
  have hws := strs_len8 (x :: ws)
  refine SLoop.by Ty.mixed (fun i : Nat => fl.length - i) (fun i => [(2, .ptr b2 0), (4, .slc 1 (strs (x :: ws)) .no), (12, .slc 2 (fl.map fV) .full), (13, .int .i64 (fl.map fV).length), (14, .int .i64 i)]) (fun _ => [(b2, oC op0 .nils)]) (fun i τ => i ≤ fl.length ∧ parseAt (fl.drop i) i x ws = parseAt fl 0 x ws ∧ St.Le σ τ) 0 ⟨by repeat (first | exact trivial | refine ⟨by first | trivial | exact Weak.refl _ | exact Weak.tok _ _ _ | exact Weak.of_eq (congrArg (AV.int _) (by omega)) | exact Weak.of_eq (congrArg AV.bool (by fail)) | exact Weak.nils _ _ (.inr rfl), ?_⟩), .refl _, Nat.zero_le _, rfl, hle0⟩ ?_
  rintro i τ ⟨hi, hd, hle⟩
  by_cases hlt : i < fl.length
  · have ga : (fl.map fV)[i]? = some (fV fl[i]) := by simp [hlt]
    have hfn := hfl _ (List.getElem_mem hlt)
    rw [List.drop_eq_getElem_cons hlt] at hd
    generalize fl[i] = q at *
    obtain ⟨n, fs⟩ := q
    rw [parseAt] at hd
    dsimp only at hfn
    have hl7 : ((x :: ws).length : Int) = ws.length + 1 := by simp
    cases fs with
    | nil =>
      refine Xc_h ?_; (conv => whnf); refine Hid.seq ?_; refine Hid.reg ?_; (conv => whnf); refine Hid.seq ?_; refine Hid.cond rfl ?_
      skip
      refine SIf.y Ty.mixed (decide_eq_true (by rw [hln]; omega)) ?_; refine Xc_h ?_; (conv => whnf); refine Hid.skip ?_; (conv => whnf); refine Hid.seq ?_; refine Hid.seq ?_; refine Hid.reg ?_; (conv => whnf)
      refine ⟨_, ⟨by first | omega | (rw [hln]; omega) | (rw [hws]; simp; omega) | fail, by first | exact ga | exact rfl⟩, ?_⟩
      (conv => whnf); intro b6 hb6; (conv => whnf); refine SStore.on 0 rfl ?_; (conv => whnf); refine Hid.seq ?_; refine Hid.seq ?_; refine Hid.regD ?_; refine SReg.t 1 [] (by decide +kernel) ?_; (conv => whnf); refine SLoad.on 0 rfl ?_; (conv => whnf)
      refine ⟨_, ⟨by first | omega | (rw [hln]; omega) | (rw [hws]; simp; omega) | fail, by first | exact ga | exact rfl⟩, ?_⟩
      (conv => whnf); refine Hid.cond rfl ?_
      by_cases hne : n = x
      · refine SIf.n Ty.mixed (by simp [hne]) ?_
        rw [if_pos hne] at hd
        refine Xc_h ?_; (conv => whnf); refine Hid.skip ?_; (conv => whnf); refine Hid.seq ?_; refine Hid.reg ?_; (conv => whnf); refine ⟨_, IntWalk.i64_in _ (by omega), ?_⟩; (conv => whnf); intro b7 hb7; (conv => whnf); refine SStore.on 0 rfl ?_; (conv => whnf); refine Hid.seq ?_; refine Hid.seq ?_; refine Hid.reg ?_; (conv => whnf); refine SLoad.on 1 rfl ?_; (conv => whnf)
        refine ⟨_, IntWalk.i64_in _ (by omega), ?_⟩; (conv => whnf); refine Hid.cond rfl ?_
        by_cases hlen : ws.length = ([] : List Nat).length
        · refine SIf.n Ty.mixed (by rw [hws, hl7, hlen]; rfl) ?_
          rw [if_pos hlen, fillR] at hd
          refine Xc_h ?_; (conv => whnf); refine Hid.skip ?_; (conv => whnf); refine Hid.seq ?_; refine Hid.seq ?_; refine Hid.reg ?_; (conv => whnf); refine SLoad.on 1 rfl ?_; (conv => whnf); refine Hid.block ?_; refine Hid.loop ?_
          refine SLoop.by Ty.mixed (fun _ : Unit => 0) (fun _ => [(2, .ptr b2 0), (7, .ptr b7 0), (38, .int .i64 0), (39, .int .i64 0)]) (fun _ => [(b7, oC (opK ((i : Int) + 1)) .nils), (b2, oC op0 .nils)]) (fun _ s => St.Le σ s) () ⟨by repeat (first | exact trivial | refine ⟨by first | trivial | exact Weak.refl _ | exact Weak.tok _ _ _ | exact Weak.of_eq (congrArg (AV.int _) (by omega)) | exact Weak.of_eq (congrArg AV.bool (by fail)) | exact Weak.nils _ _ (.inr rfl), ?_⟩), ?_, le_new2 (le_new2 hle hb6) hb7⟩ ?_
          · exact .keep (.drop (.keep .nil))
          rintro _ s hls; refine Xc_h ?_; (conv => whnf); refine Hid.seq ?_; refine Hid.reg ?_; (conv => whnf); refine Hid.seq ?_; refine Hid.cond rfl ?_; refine SIf.n Ty.mixed (by exact rfl) ?_; refine Xc_h ?_; (conv => whnf); refine Hid.exit ?_; (conv => whnf); refine Hid.seq ?_; refine Hid.reg ?_; (conv => whnf); refine SLoad.on 0 rfl ?_; (conv => whnf); refine SStore.on 1 rfl ?_; (conv => whnf)
          refine Hid.ret ?_; (conv => whnf); refine SLoad.on 1 rfl ?_; (conv => whnf)
          rw [← hd]
          exact .v (le_setBox hls hb2) (.tup (.cons (weak_opK _) (.cons (.refl _) .nil)))
        · refine SIf.y Ty.mixed (by rw [hws, hl7, decide_eq_false (by simp only [List.length_nil] at hlen; omega)]; rfl) ?_
          rw [if_neg hlen] at hd
          refine Xc_h ?_; (conv => whnf); refine Hid.seq ?_; refine Hid.reg ?_; (conv => whnf); refine SStore.on 2 rfl ?_; (conv => whnf); refine Hid.ret ?_; (conv => whnf); refine SLoad.on 2 rfl ?_; (conv => whnf)
          rw [← hd]
          exact .v (le_setBox (le_new2 (le_new2 hle hb6) hb7) hb2) (.tup (.cons (weak_opK 0) (.cons (.refl _) .nil)))
      · refine SIf.y Ty.mixed (by simp [hne]) ?_
        rw [if_neg hne] at hd
        refine Xc_h ?_; (conv => whnf); refine Hid.exit ?_; (conv => whnf); refine Hid.reg ?_; (conv => whnf); refine ⟨_, IntWalk.i64_in _ (by omega), ?_⟩; (conv => whnf)
        exact ⟨i + 1, by omega, by repeat (first | exact trivial | refine ⟨by first | trivial | exact Weak.refl _ | exact Weak.tok _ _ _ | exact Weak.of_eq (congrArg (AV.int _) (by omega)) | exact Weak.of_eq (congrArg AV.bool (by fail)) | exact Weak.nils _ _ (.inr rfl), ?_⟩), .drop (.refl _), hlt, hd, le_new2 hle hb6⟩
    | cons f fs0 =>
      obtain ⟨fs, hfs⟩ : ∃ fs, fs = f :: fs0 := ⟨_, rfl⟩
      have hfv : fV (n, f :: fs0) = .agg [.str n, .slc 1 (fs.map fun f : Nat => AV.int .i64 ((f : Nat) : Int)) .full] := by rw [hfs]; rfl
      rw [hfv] at ga
      rw [← hfs] at hd hfn
      have hfsl : (fs.map fun f : Nat => AV.int .i64 ((f : Nat) : Int)).length = fs.length := by simp
      obtain ⟨hf5, hfn⟩ := hfn
      clear hfs hfv; refine Xc_h ?_; (conv => whnf); refine Hid.seq ?_; refine Hid.reg ?_; (conv => whnf); refine Hid.seq ?_; refine Hid.cond rfl ?_
      skip
      refine SIf.y Ty.mixed (decide_eq_true (by rw [hln]; omega)) ?_; refine Xc_h ?_; (conv => whnf); refine Hid.skip ?_; (conv => whnf); refine Hid.seq ?_; refine Hid.seq ?_; refine Hid.reg ?_; (conv => whnf)
      refine ⟨_, ⟨by first | omega | (rw [hln]; omega) | (rw [hws]; simp; omega) | (rw [hfsl]; omega) | fail, by first | exact ga | exact rfl⟩, ?_⟩
      (conv => whnf); intro b6 hb6; (conv => whnf); refine SStore.on 0 rfl ?_; (conv => whnf); refine Hid.seq ?_; refine Hid.seq ?_; refine Hid.regD ?_; refine SReg.t 1 [] (by decide +kernel) ?_; (conv => whnf); refine SLoad.on 0 rfl ?_; (conv => whnf)
      refine ⟨_, ⟨by first | omega | (rw [hln]; omega) | (rw [hws]; simp; omega) | (rw [hfsl]; omega) | fail, by first | exact ga | exact rfl⟩, ?_⟩
      (conv => whnf); refine Hid.cond rfl ?_
      by_cases hne : n = x
      · refine SIf.n Ty.mixed (by simp [hne]) ?_
        rw [if_pos hne] at hd
        refine Xc_h ?_; (conv => whnf); refine Hid.skip ?_; (conv => whnf); refine Hid.seq ?_; refine Hid.reg ?_; (conv => whnf); refine ⟨_, IntWalk.i64_in _ (by omega), ?_⟩; (conv => whnf); intro b7 hb7; (conv => whnf); refine SStore.on 0 rfl ?_; (conv => whnf); refine Hid.seq ?_; refine Hid.seq ?_; refine Hid.reg ?_; (conv => whnf); refine SLoad.on 1 rfl ?_; (conv => whnf)
        refine ⟨_, IntWalk.i64_in _ (by omega), ?_⟩; (conv => whnf); refine Hid.cond rfl ?_
        by_cases hlen : ws.length = fs.length
        · refine SIf.n Ty.mixed (by rw [hws, hl7, hfsl, decide_eq_true (by omega)]; rfl) ?_
          rw [if_pos hlen] at hd
          refine Xc_h ?_; (conv => whnf); refine Hid.skip ?_; (conv => whnf); refine Hid.seq ?_; refine Hid.seq ?_; refine Hid.reg ?_; (conv => whnf); refine SLoad.on 1 rfl ?_; (conv => whnf); refine Hid.block ?_; refine Hid.loop ?_
          have hle7 : St.Le σ ((((τ.setBox b6 [.str [], .nils]).setBox b6 [.str n, .slc 1 (fs.map fun f : Nat => AV.int .i64 ((f : Nat) : Int)) .full]).setBox b7 (oC op0 .nils)).setBox b7 (oC (opK ((i : Int) + 1)) .nils)) := le_new2 (le_new2 hle hb6) hb7
          refine SLoop.weakBox 0 rfl (weak_cells ((i : Int) + 1)) ?_
          refine SLoop.by Ty.mixed (fun ((j, o) : Nat × OpV) => fs.length - j) (fun (j, o) => [(2, .ptr b2 0), (4, .slc 1 (strs (x :: ws)) .no), (7, .ptr b7 0), (37, .slc 1 (fs.map fun f : Nat => AV.int .i64 ((f : Nat) : Int)) .full), (38, .int .i64 (fs.map fun f : Nat => AV.int .i64 ((f : Nat) : Int)).length), (39, .int .i64 j)]) (fun (j, o) => [(b7, oC o (dB o.data)), (b2, oC op0 .nils)]) (fun (j, o) s => j ≤ fs.length ∧ fillR o (fs.drop j) (ws.drop j) = fillR (opK ((i : Int) + 1)) fs ws ∧ St.Le σ s) (0, opK ((i : Int) + 1)) ⟨by repeat (first | exact trivial | refine ⟨by first | trivial | exact Weak.refl _ | exact Weak.tok _ _ _ | exact Weak.of_eq (congrArg (AV.int _) (by omega)) | exact Weak.of_eq (congrArg AV.bool (by fail)) | exact Weak.nils _ _ (.inr rfl), ?_⟩), ?_, by simp, rfl, le_setBox hle7 (le_none (le_new2 hle hb6) hb7)⟩ ?_
          · exact .keep (.drop (.keep .nil))
          rintro ⟨j, o⟩ s ⟨hj, hf, hls⟩
          dsimp only at hj hf hls ⊢
          by_cases hjl : j < fs.length
          · have gf : (fs.map fun f : Nat => AV.int .i64 ((f : Nat) : Int))[j]? = some (.int .i64 fs[j]) := by simp [hjl]
            have hjw : j < ws.length := by omega
            have gw : (strs (x :: ws))[((j : Int) + 1).toNat]? = some (.str ws[j]) := by
              rw [show ((j : Int) + 1).toNat = j + 1 by omega]; simp [strs, hjw]
            have hf9 := hfn _ (List.getElem_mem hjl)
            have hw9 := hml ws[j] (by simp)
            rw [List.drop_eq_getElem_cons hjl, List.drop_eq_getElem_cons hjw, fillR] at hf
            generalize fs[j] = f9 at *
            generalize ws[j] = w9 at *
            refine Xc_h ?_; (conv => whnf); refine Hid.seq ?_; refine Hid.reg ?_; (conv => whnf); refine Hid.seq ?_; refine Hid.cond rfl ?_
            skip
            refine SIf.y Ty.mixed (decide_eq_true (by rw [hfsl]; omega)) ?_; refine Xc_h ?_; (conv => whnf); refine Hid.skip ?_; (conv => whnf); refine Hid.seq ?_; refine Hid.seq ?_; refine Hid.reg ?_; (conv => whnf)
            refine ⟨_, ⟨by first | omega | (rw [hln]; omega) | (rw [hws]; simp; omega) | (rw [hfsl]; omega) | fail, by first | exact gf | exact ⟨by omega, gw⟩ | exact gw⟩, ?_⟩
            (conv => whnf); refine Hid.seq ?_; refine Hid.regD ?_; refine SReg.d [0, 1, 2, 3, 4, 5, 6, 7, 8] [0, 0, 0, 0, 0, 0, 0, 2, 0] (by decide +kernel) ?_; (conv => whnf); (conv => whnf); refine SCall.p (by exact place_any w0 b7 f9 hf9) ?_; (conv => whnf); refine ⟨_, IntWalk.i64_in _ (by omega), ?_⟩; (conv => whnf)
            refine ⟨_, ⟨by first | omega | (rw [hln]; omega) | (rw [hws]; simp; omega) | (rw [hfsl]; omega) | fail, by first | exact gf | exact ⟨by omega, gw⟩ | exact gw⟩, ?_⟩
            (conv => whnf); refine SCall.wK (fun hK => take_any w0 hL _ b7 f9 hf9 o w9 (by omega) (hK.get (i := 0) rfl)) rfl ?_; rintro r s1 ⟨rfl, rfl⟩ hB; refine ⟨_, hB.set (i := 0) rfl, ?_⟩; (conv => whnf); refine Hid.cond rfl ?_
            skip
            cases hk : (setF o f9 w9).2 with
            | true =>
              refine SIf.n Ty.mixed rfl ?_; refine Xc_h ?_; (conv => whnf); refine Hid.skip ?_; (conv => whnf); refine Hid.reg ?_; (conv => whnf); refine ⟨_, IntWalk.i64_in _ (by omega), ?_⟩; (conv => whnf)
              rw [if_pos hk] at hf
              exact ⟨(j + 1, (setF o f9 w9).1), by show fs.length - (j + 1) < fs.length - j; omega, by repeat (first | exact trivial | refine ⟨by first | trivial | exact Weak.refl _ | exact Weak.tok _ _ _ | exact Weak.of_eq (congrArg (AV.int _) (by omega)) | exact Weak.of_eq (congrArg AV.bool (by fail)) | exact Weak.nils _ _ (.inr rfl), ?_⟩), .refl _, hjl, hf, le_setBox hls (le_none (le_new2 hle hb6) hb7)⟩
            | false =>
              refine SIf.y Ty.mixed rfl ?_; refine Xc_h ?_; (conv => whnf); refine Hid.seq ?_; refine Hid.reg ?_; (conv => whnf); refine SStore.on 1 rfl ?_; (conv => whnf); refine Hid.ret ?_; (conv => whnf); refine SLoad.on 1 rfl ?_; (conv => whnf)
              rw [if_neg (by rw [hk]; simp)] at hf
              rw [← hd, ← hf]
              exact .v (le_setBox (le_setBox hls (le_none (le_new2 hle hb6) hb7)) hb2) (.tup (.cons (weak_opK 0) (.cons (.refl _) .nil)))
          · have hge : j = fs.length := by omega
            subst hge
            rw [List.drop_length, fillR] at hf
            refine Xc_h ?_; (conv => whnf); refine Hid.seq ?_; refine Hid.reg ?_; (conv => whnf); refine Hid.seq ?_; refine Hid.cond rfl ?_
            skip
            refine SIf.n Ty.mixed (decide_eq_false (by rw [hfsl]; omega)) ?_; refine Xc_h ?_; (conv => whnf); refine Hid.exit ?_; (conv => whnf); refine Hid.seq ?_; refine Hid.reg ?_; (conv => whnf); refine SLoad.on 0 rfl ?_; (conv => whnf); refine SStore.on 1 rfl ?_; (conv => whnf); refine Hid.ret ?_; (conv => whnf); refine SLoad.on 1 rfl ?_; (conv => whnf)
            rw [← hd, ← hf]
            exact .p (le_setBox hls hb2) rfl
        · refine SIf.y Ty.mixed (by rw [hws, hl7, hfsl, decide_eq_false (by omega)]; rfl) ?_
          rw [if_neg hlen] at hd
          refine Xc_h ?_; (conv => whnf); refine Hid.seq ?_; refine Hid.reg ?_; (conv => whnf); refine SStore.on 2 rfl ?_; (conv => whnf); refine Hid.ret ?_; (conv => whnf); refine SLoad.on 2 rfl ?_; (conv => whnf)
          rw [← hd]
          exact .v (le_setBox (le_new2 (le_new2 hle hb6) hb7) hb2) (.tup (.cons (weak_opK 0) (.cons (.refl _) .nil)))
      · refine SIf.y Ty.mixed (by simp [hne]) ?_
        rw [if_neg hne] at hd
        refine Xc_h ?_; (conv => whnf); refine Hid.exit ?_; (conv => whnf); refine Hid.reg ?_; (conv => whnf); refine ⟨_, IntWalk.i64_in _ (by omega), ?_⟩; (conv => whnf)
        exact ⟨i + 1, by omega, by repeat (first | exact trivial | refine ⟨by first | trivial | exact Weak.refl _ | exact Weak.tok _ _ _ | exact Weak.of_eq (congrArg (AV.int _) (by omega)) | exact Weak.of_eq (congrArg AV.bool (by fail)) | exact Weak.nils _ _ (.inr rfl), ?_⟩), .drop (.refl _), hlt, hd, le_new2 hle hb6⟩
  · have hge : i = fl.length := by omega
    subst hge
    rw [List.drop_length, parseAt] at hd
    refine Xc_h ?_; (conv => whnf); refine Hid.seq ?_; refine Hid.reg ?_; (conv => whnf); refine Hid.seq ?_; refine Hid.cond rfl ?_
    skip
    refine SIf.n Ty.mixed (decide_eq_false (by rw [hln]; omega)) ?_; refine Xc_h ?_; (conv => whnf); refine Hid.exit ?_; (conv => whnf); refine Hid.seq ?_; refine Hid.reg ?_; (conv => whnf); refine SStore.on 0 rfl ?_; (conv => whnf); refine Hid.ret ?_; (conv => whnf); refine SLoad.on 0 rfl ?_; (conv => whnf)
    rw [← hd]
    exact .v (le_setBox hle hb2) (.tup (.cons (weak_opK 0) (.cons (.refl _) .nil)))
end Go.Proofs.YtjcikceophcooaaDoor
end
section
set_option linter.unusedVariables false
set_option linter.unusedSimpArgs false
set_option maxRecDepth 100000
set_option maxHeartbeats 4000000
namespace Go.Proofs.YtjcikceophcooaaDoor
open Go.Al Go.RowKit
def flatV (o : OpV) : List AV := [.ifc 3 (.int .i64 o.kind), .ifc 3 (.int .i64 o.sub), .ifc 3 (.int .i64 o.n), .ifc 3 (.int .i64 o.seq), .ifc 9 (.str o.name), .ifc 9 (.str o.topic), .ifc 9 (.str o.want), .ifc 9 (.str o.body), .ifc 9 (.str o.attr)]
theorem flat_any (w0 : Base) (o : OpV) : CallP Tryd.prog w0 49 [eOp o] (.agg (flatV o)) := by
  refine CallP.h Ty.tok Ty.mixed Tryd.func49 rfl Tryd.ntmps49 rfl (by simp) (by decide +kernel) fun σ => ?_
  (conv => whnf); refine Hid.seq ?_; refine Hid.reg ?_; (conv => whnf); refine SBox.f ?_; (conv => whnf); intro b2 hb2; (conv => whnf); refine Hid.seq ?_; refine Hid.reg ?_; (conv => whnf); refine SStore.on 0 rfl ?_; (conv => whnf); refine Hid.ret ?_; (conv => whnf); refine SLoad.on 0 rfl ?_; (conv => whnf); exact .p (le_new2 (.refl _) hb2) rfl
instance : IfcEq Tryd.prog 90 9 := by
  obtain ⟨i, hi⟩ : ∃ i, Tryd.prog.info? 20 = some i := Option.isSome_iff_exists.1 (by kernel_rfl)
  exact ⟨_, _, i, Tryd.underlying90, Tryd.underlying20, hi, by kernel_rfl, by kernel_rfl⟩
theorem ifcD_int (n : Int) : ifcD Tryd.prog (.ifc 3 (.int .i64 n)) = true := by
  rw [ifcD, show Tryd.prog.underlying 3 = _ from Tryd.underlying3, show ((Tryd.prog.info? 3).map (·.comparable)).getD false = true by kernel_rfl]
  rfl
theorem ifcD_str (s : List UInt8) : ifcD Tryd.prog (.ifc 9 (.str s)) = true := by
  rw [ifcD, show Tryd.prog.underlying 9 = _ from Tryd.underlying9, show ((Tryd.prog.info? 9).map (·.comparable)).getD false = true by kernel_rfl]
  rfl
theorem flatV_ok (o : OpV) : ∀ z ∈ flatV o, ifcD Tryd.prog z = true := by
  intro z hz
  simp only [flatV, List.mem_cons, List.not_mem_nil, or_false] at hz
  rcases hz with rfl | rfl | rfl | rfl | rfl | rfl | rfl | rfl | rfl
  all_goals first | exact ifcD_int _ | exact ifcD_str _
def flatEq (a b : OpV) : Bool := (a.kind == b.kind && (a.sub == b.sub && (a.n == b.n && (a.seq == b.seq && (a.name == b.name && (a.topic == b.topic && (a.want == b.want && (a.body == b.body && (a.attr == b.attr && true)))))))))
theorem flatV_eq (a b : OpV) : eqIfcs (flatV a) (flatV b) = some (flatEq a b) := by
  simp only [flatV, eqIfcs, eqIfc, eqCell, if_true, flatEq]
theorem flatEq_iff (a b : OpV) : (decide (a.data = b.data) && flatEq a b) = decide (a = b) := by
  obtain ⟨a1, a2, a3, a4, a5, a6, a7, a8, a9, a10⟩ := a
  obtain ⟨b1, b2, b3, b4, b5, b6, b7, b8, b9, b10⟩ := b
  rw [Bool.eq_iff_iff]
  simp only [flatEq, Bool.and_eq_true, beq_iff_eq, decide_eq_true_eq, OpV.mk.injEq, Bool.and_true, and_true]
  constructor
  · rintro ⟨h1, h2, h3, h4, h5, h6, h7, h8, h9, h10⟩
    exact ⟨h2, h3, h4, h5, h6, h7, h8, h9, h10, h1⟩
  · rintro ⟨h1, h2, h3, h4, h5, h6, h7, h8, h9, h10⟩
    exact ⟨h10, h1, h2, h3, h4, h5, h6, h7, h8, h9⟩
theorem same_any (w0 : Base) (a b : OpV) : CallP Tryd.prog w0 39 [eOp a, eOp b] (.bool (decide (a = b))) := by
  rw [← flatEq_iff]
  have h1 := flat_any w0 a
  have h2 := flat_any w0 b
  refine CallP.h Ty.tok Ty.mixed Tryd.func39 rfl Tryd.ntmps39 rfl (by simp) (by decide +kernel) fun σ => ?_
  cases hd : decide (a.data = b.data) with
  | true =>
    (conv => whnf); refine Hid.seq ?_; refine Hid.reg ?_; (conv => whnf); refine SBox.f ?_; (conv => whnf); refine SBox.f ?_; (conv => whnf); refine Hid.seq ?_; refine Hid.reg ?_; (conv => whnf); refine ⟨_, toBytes_aBytes _, ?_⟩; (conv => whnf); refine ⟨_, toBytes_aBytes _, ?_⟩; (conv => whnf); refine Hid.seq ?_; refine Hid.reg ?_; (conv => whnf); refine Hid.seq ?_; refine Hid.regD ?_
    refine SReg.t 0 [] (by decide +kernel) ?_; (conv => whnf); refine SCond.y (by assumption) ?_; (conv => whnf); refine SCond.y (by assumption) ?_; (conv => whnf); refine SCond.y (by assumption) ?_; (conv => whnf); refine SCall.p (by exact h1) ?_; (conv => whnf); refine SCond.y (by assumption) ?_; (conv => whnf); refine SCond.y (by assumption) ?_; (conv => whnf); refine SCond.y (by assumption) ?_
    (conv => whnf); refine SCall.p (by exact h2) ?_; (conv => whnf); refine SCond.y (by assumption) ?_; (conv => whnf); refine SEqR.ifc (n := 9) rfl rfl rfl (flatV_ok a) (flatV_eq a b) rfl ?_; (conv => whnf); refine SPick.y (by assumption) ?_; (conv => whnf); refine Hid.ret ?_; (conv => whnf); exact .p (.refl _) rfl
  | false =>
    (conv => whnf); refine Hid.seq ?_; refine Hid.reg ?_; (conv => whnf); refine SBox.f ?_; (conv => whnf); refine SBox.f ?_; (conv => whnf); refine Hid.seq ?_; refine Hid.reg ?_; (conv => whnf); refine ⟨_, toBytes_aBytes _, ?_⟩; (conv => whnf); refine ⟨_, toBytes_aBytes _, ?_⟩; (conv => whnf); refine Hid.seq ?_; refine Hid.reg ?_; (conv => whnf); refine Hid.seq ?_; refine Hid.regD ?_
    refine SReg.t 0 [] (by decide +kernel) ?_; (conv => whnf); refine SCond.n (by assumption) ?_; (conv => whnf); refine SCond.n (by assumption) ?_; (conv => whnf); refine SCond.n (by assumption) ?_; (conv => whnf); refine SCond.n (by assumption) ?_; (conv => whnf); refine SCond.n (by assumption) ?_; (conv => whnf); refine SCond.n (by assumption) ?_; (conv => whnf)
    refine SCond.n (by assumption) ?_; (conv => whnf); refine SPick.n (by assumption) ?_; (conv => whnf); refine Hid.ret ?_; (conv => whnf); exact .p (.refl _) rfl
end Go.Proofs.YtjcikceophcooaaDoor
end
section
set_option linter.unusedVariables false
set_option linter.unusedSimpArgs false
set_option maxRecDepth 100000
set_option maxHeartbeats 4000000
namespace Go.Proofs.YtjcikceophcooaaDoor
open Go.Al Go.RowKit
instance : OwnF Tryd.prog 38 := ⟨_, Tryd.func38, by kernel_rfl, by kernel_rfl⟩
theorem strs_vals {G : Gh} {w : World} : ∀ (l : List (List UInt8)) (vs : List Value), RelL G w ((strs l).flatMap AV.cells) vs → vs = l.map bstr
  | [], vs, h => by cases h; rfl
  | p :: l, vs, h => by
    cases h with
    | cons h t =>
      cases h
      rw [strs_vals l _ t]
      rfl
theorem join_any (w0 : Base) (l : List (List UInt8)) (tk : Tok) (sep : List UInt8) (hne : l ≠ []) (hl : l.length ≤ 1000) (hs : (Lib.join l sep).length ≤ 140737488355328) : CallP Tryd.prog w0 38 [.slc 1 (strs l) tk, .str sep] (.str (Lib.join l sep)) := .told fun G w vs hb hr => by
  cases hr with
  | cons h t =>
    cases t with
    | cons h2 t =>
      cases t
      cases h2
      cases h with
      | @slc _ _ _ A0 n cap vs hn hc hm hsz hr hli ht =>
      obtain rfl := strs_vals l _ hr
      have hn : l.length = n := by simpa [strs] using hn
      obtain ⟨bk, o, rfl, h1, h2⟩ := hli 0 (bstr (l.head hne)) (by cases l with | nil => exact absurd rfl hne | cons x l => rfl)
      have hxs : (l.map fun p => (⟨p.toArray⟩ : ByteArray)).map (·.data.toList) = l := by
        rw [List.map_map]
        conv => rhs; rw [← List.map_id l]
        exact List.map_congr_left fun x _ => rfl
      have k := Tryd.strings_Join bk o cap (l.map fun p => ⟨p.toArray⟩) ⟨sep.toArray⟩ w (fun j x hx => by
        obtain ⟨b', o', e, h3, h4⟩ := hli j (.string x) (by
          rw [List.getElem?_map] at hx ⊢
          cases hp : l[j]? with
          | none => rw [hp] at hx; cases hx
          | some p => rw [hp] at hx; cases hx; rfl)
        cases e
        exact h4) (lt_of_cell h2) (by simp; omega) (by simpa using (by omega : l.length ≤ cap)) (by rw [hxs]; exact hs)
      rw [hxs, List.length_map, hn] at k
      exact ⟨_, fun w' => .str _, k⟩
def printS (o : OpV) (p : List UInt8 × List Nat) : List UInt8 := Lib.join (p.1 :: p.2.map (toldF o)) [32]
def formAt (k : Int) : List UInt8 × List Nat := (formsL[(k - 1).toNat]?).getD ([], [])
def printT (o : OpV) : List UInt8 × Bool := if o.kind < 1 ∨ 20 < o.kind then ([], false) else if parseT (printS o (formAt o.kind)) = (o, 0) then (printS o (formAt o.kind), true) else ([], false)
structure OpS (o : OpV) : Prop where
  s : o.name.length ≤ 1000 ∧ o.topic.length ≤ 1000 ∧ o.want.length ≤ 1000 ∧ o.body.length ≤ 1000 ∧ o.attr.length ≤ 1000 ∧ o.data.length ≤ 1000
  i : (-9223372036854775808 ≤ o.sub ∧ o.sub ≤ 9223372036854775807) ∧ (-9223372036854775808 ≤ o.n ∧ o.n ≤ 9223372036854775807) ∧ (-9223372036854775808 ≤ o.seq ∧ o.seq ≤ 9223372036854775807)
  k : -9223372036854775808 ≤ o.kind ∧ o.kind ≤ 9223372036854775807
theorem told_short {o : OpV} (h : OpS o) (f : Nat) : (toldF o f).length ≤ 4000 := by
  obtain ⟨⟨s1, s2, s3, s4, s5, s6⟩, i, k⟩ := h
  obtain ⟨⟨i1, j1⟩, ⟨i2, j2⟩, i3, j3⟩ := i
  have q1 := quoteT_len o.name
  have q2 := quoteT_len o.topic
  have q3 := quoteT_len o.want
  have q4 := quoteT_len o.body
  have q5 := quoteT_len o.attr
  have q6 := quoteT_len o.data
  have n1 := itoa_len20 ⟨i1, j1⟩
  have n2 := itoa_len20 ⟨i2, j2⟩
  have n3 := itoa_len20 ⟨i3, j3⟩
  unfold toldF
  split <;> omega
theorem join_short (x : List UInt8) : ∀ (l : List (List UInt8)), (∀ y ∈ l, y.length ≤ 4000) → (Lib.join (x :: l) [32]).length ≤ x.length + 4001 * l.length := by
  intro l h
  rw [Lib.join_cons]
  have : (Lib.joinTail [32] l).length ≤ 4001 * l.length := by
    unfold Lib.joinTail
    induction l with
    | nil => simp
    | cons y l ih =>
      have h1 := h y (by simp)
      have h2 := ih fun z hz => h z (List.mem_cons_of_mem _ hz)
      simp only [List.map_cons, List.flatten_cons, List.length_append, List.length_cons, List.length_nil] at h2 ⊢
      omega
  rw [List.length_append]
  omega
theorem forms_name : ∀ p ∈ formsL, p.1.length ≤ 20 := by decide
theorem formAt_mem {k : Int} (h : ¬ (k < 1 ∨ 20 < k)) : formsL[(k - 1).toNat]? = some (formAt k) ∧ formAt k ∈ formsL := by
  have hl : (k - 1).toNat < formsL.length := by show _ < 20; omega
  have : formsL[(k - 1).toNat]? = some formsL[(k - 1).toNat] := List.getElem?_eq_getElem hl
  rw [formAt, this]
  exact ⟨rfl, List.getElem_mem hl⟩
theorem printS_len {o : OpV} (h : OpS o) {k : Int} (hk : ¬ (k < 1 ∨ 20 < k)) : (printS o (formAt k)).length ≤ 30000 := by
  have hm := (formAt_mem hk).2
  have h1 := forms_name _ hm
  have h2 := (forms_fld _ hm).1
  have := join_short (formAt k).1 ((formAt k).2.map (toldF o)) (fun y hy => by
    obtain ⟨f, _, rfl⟩ := List.mem_map.1 hy
    exact told_short h f)
  rw [List.length_map] at this
  rw [printS]
  omega
theorem print_any (w0 : Base) (hL : Laid w0) (o : OpV) (ho : OpS o) : CallP Tryd.prog w0 20 [eOp o] (.tup [.str (printT o).1, .bool (printT o).2]) := fun σ => by
  have hfo := forms_any w0
  have hf20 : (formsL.map fV).length = 20 := rfl
  refine CallW.h (B := []) Ty.tok Ty.mixed Tryd.func20 rfl Tryd.ntmps20 rfl (by simp) (by decide +kernel) (.nil σ) ?_
  rw [printT]
  by_cases hk : o.kind < 1 ∨ 20 < o.kind
  · rw [if_pos hk]
    generalize formsL.map fV = fl at *
    by_cases h1 : o.kind < 1
    · have d1 : decide (o.kind < 1) = true := decide_eq_true h1
      (try refine Xc_h ?_); (try (conv => whnf)); repeat (first | refine Hid.seq ?_ | (refine Hid.reg ?_; (conv => whnf)) | refine Hid.regD ?_ | refine Hid.cond rfl ?_ | refine Hid.block ?_ | refine Hid.loop ?_ | (refine Hid.exit ?_; (conv => whnf)) | (refine Hid.ret ?_; (conv => whnf)) | (refine Hid.skip ?_; (conv => whnf)) | (refine Hid.label ?_; (conv => whnf)) | refine Hid.range ?_)
      repeat' (((first | refine SIf.y Ty.mixed (by first | exact rfl | assumption | fail) ?_ | refine SIf.n Ty.mixed (by first | exact rfl | assumption | fail) ?_ | refine SCond.y (by first | exact rfl | assumption | fail) ?_ | refine SCond.n (by first | exact rfl | assumption | fail) ?_ | refine SPick.y (by first | exact rfl | assumption | fail) ?_ | refine SPick.n (by first | exact rfl | assumption | fail) ?_ | refine SPick.b ?_ | refine SPick.i ?_ | fail | refine SLoad.on 0 rfl ?_ | refine SLoad.on 1 rfl ?_ | refine SLoad.on 2 rfl ?_ | refine SLoad.on 3 rfl ?_ | refine SLoad.on 4 rfl ?_ | refine SLoad.on 5 rfl ?_ | refine SStore.on 0 rfl ?_ | refine SStore.on 1 rfl ?_ | refine SStore.on 2 rfl ?_ | refine SStore.on 3 rfl ?_ | refine SStore.on 4 rfl ?_ | refine SStore.on 5 rfl ?_ | refine SBox.f ?_ | refine SCall.p (by exact hfo) ?_ | fail | refine SApp.c rfl rfl (by first | assumption | exact Moves.more (by assumption) (by assumption) | fail) (by first | (simp only [length_aBytes, List.length_append, List.length_cons, List.length_nil, List.length_map, List.length_range]; omega) | omega | fail) fun tk1 σ1 hm => ?_ | refine SReg.t 0 [] (by decide +kernel) ?_ | refine And.intro (by first | omega | (simp only [List.length_cons, List.length_append, List.length_nil, List.length_map, length_aBytes, List.length_replicate, List.length_range]; omega) | fail) ?_ | refine ⟨_, ⟨by first | omega | (simp only [List.length_cons, List.length_append, List.length_nil, List.length_map, length_aBytes, List.length_replicate, List.length_range]; omega) | fail, by first | assumption | exact get_map (by assumption) | exact get_bytes (by assumption) | fail⟩, ?_⟩ | refine ⟨_, toBytes_aBytes _, ?_⟩ | refine ⟨_, by repeat (first | exact toB_nil | apply toB_cons | apply toB_consC _ (by first | omega | (simp only [List.length_cons, List.length_append, List.length_nil, List.length_map, length_aBytes, List.length_replicate, List.length_range]; omega) | fail)), ?_⟩ | refine ⟨_, IntWalk.i64_in _ (by first | omega | (simp only [List.length_cons, List.length_append, List.length_nil, List.length_map, length_aBytes, List.length_replicate, List.length_range]; omega) | fail), ?_⟩ | refine ⟨_, wrap_u8 _, ?_⟩ | refine ⟨_, rfl, ?_⟩ | refine ⟨true, fun b1 hb1 => ?_⟩ | intro b1 hb1 | fail); (try refine Xc_h ?_); (try (conv => whnf)); repeat (first | refine Hid.seq ?_ | (refine Hid.reg ?_; (conv => whnf)) | refine Hid.regD ?_ | refine Hid.cond rfl ?_ | refine Hid.block ?_ | refine Hid.loop ?_ | (refine Hid.exit ?_; (conv => whnf)) | (refine Hid.ret ?_; (conv => whnf)) | (refine Hid.skip ?_; (conv => whnf)) | (refine Hid.label ?_; (conv => whnf)) | refine Hid.range ?_)))
      exact .p (.refl _) rfl
    · have d1 : decide (o.kind < 1) = false := decide_eq_false h1
      have d2 : decide ((fl.length : Int) < o.kind) = true := decide_eq_true (by rw [hf20]; omega)
      (try refine Xc_h ?_); (try (conv => whnf)); repeat (first | refine Hid.seq ?_ | (refine Hid.reg ?_; (conv => whnf)) | refine Hid.regD ?_ | refine Hid.cond rfl ?_ | refine Hid.block ?_ | refine Hid.loop ?_ | (refine Hid.exit ?_; (conv => whnf)) | (refine Hid.ret ?_; (conv => whnf)) | (refine Hid.skip ?_; (conv => whnf)) | (refine Hid.label ?_; (conv => whnf)) | refine Hid.range ?_)
      repeat' (((first | refine SIf.y Ty.mixed (by first | exact rfl | assumption | fail) ?_ | refine SIf.n Ty.mixed (by first | exact rfl | assumption | fail) ?_ | refine SCond.y (by first | exact rfl | assumption | fail) ?_ | refine SCond.n (by first | exact rfl | assumption | fail) ?_ | refine SPick.y (by first | exact rfl | assumption | fail) ?_ | refine SPick.n (by first | exact rfl | assumption | fail) ?_ | refine SPick.b ?_ | refine SPick.i ?_ | fail | refine SLoad.on 0 rfl ?_ | refine SLoad.on 1 rfl ?_ | refine SLoad.on 2 rfl ?_ | refine SLoad.on 3 rfl ?_ | refine SLoad.on 4 rfl ?_ | refine SLoad.on 5 rfl ?_ | refine SStore.on 0 rfl ?_ | refine SStore.on 1 rfl ?_ | refine SStore.on 2 rfl ?_ | refine SStore.on 3 rfl ?_ | refine SStore.on 4 rfl ?_ | refine SStore.on 5 rfl ?_ | refine SBox.f ?_ | refine SCall.p (by exact hfo) ?_ | fail | refine SApp.c rfl rfl (by first | assumption | exact Moves.more (by assumption) (by assumption) | fail) (by first | (simp only [length_aBytes, List.length_append, List.length_cons, List.length_nil, List.length_map, List.length_range]; omega) | omega | fail) fun tk1 σ1 hm => ?_ | refine SReg.t 0 [] (by decide +kernel) ?_ | refine And.intro (by first | omega | (simp only [List.length_cons, List.length_append, List.length_nil, List.length_map, length_aBytes, List.length_replicate, List.length_range]; omega) | fail) ?_ | refine ⟨_, ⟨by first | omega | (simp only [List.length_cons, List.length_append, List.length_nil, List.length_map, length_aBytes, List.length_replicate, List.length_range]; omega) | fail, by first | assumption | exact get_map (by assumption) | exact get_bytes (by assumption) | fail⟩, ?_⟩ | refine ⟨_, toBytes_aBytes _, ?_⟩ | refine ⟨_, by repeat (first | exact toB_nil | apply toB_cons | apply toB_consC _ (by first | omega | (simp only [List.length_cons, List.length_append, List.length_nil, List.length_map, length_aBytes, List.length_replicate, List.length_range]; omega) | fail)), ?_⟩ | refine ⟨_, IntWalk.i64_in _ (by first | omega | (simp only [List.length_cons, List.length_append, List.length_nil, List.length_map, length_aBytes, List.length_replicate, List.length_range]; omega) | fail), ?_⟩ | refine ⟨_, wrap_u8 _, ?_⟩ | refine ⟨_, rfl, ?_⟩ | refine ⟨true, fun b1 hb1 => ?_⟩ | intro b1 hb1 | fail); (try refine Xc_h ?_); (try (conv => whnf)); repeat (first | refine Hid.seq ?_ | (refine Hid.reg ?_; (conv => whnf)) | refine Hid.regD ?_ | refine Hid.cond rfl ?_ | refine Hid.block ?_ | refine Hid.loop ?_ | (refine Hid.exit ?_; (conv => whnf)) | (refine Hid.ret ?_; (conv => whnf)) | (refine Hid.skip ?_; (conv => whnf)) | (refine Hid.label ?_; (conv => whnf)) | refine Hid.range ?_)))
      exact .p (.refl _) rfl
  rw [if_neg hk]
  obtain ⟨hat, hmem⟩ := formAt_mem hk
  have hlen := printS_len ho hk
  have hpa := parse_any w0 hL (printS o (formAt o.kind)) (by omega)
  have ga : (formsL.map fV)[(o.kind - 1).toNat]? = some (fV (formAt o.kind)) := by rw [List.getElem?_map, hat]; rfl
  obtain ⟨hf5, hf9⟩ := forms_fld _ hmem
  have hnm := forms_name _ hmem
  rw [printS] at hlen hpa ⊢
  generalize formAt o.kind = p at *
  obtain ⟨nm, fs⟩ := p
  dsimp only at hlen hpa hf5 hf9 hnm ⊢
  generalize formsL.map fV = fl at *
  have d1 : decide (o.kind < 1) = false := decide_eq_false (by omega)
  have d2 : decide ((fl.length : Int) < o.kind) = false := decide_eq_false (by rw [hf20]; omega)
  have hsame := fun a => same_any w0 a o
  generalize hpr : parseT (Lib.join (nm :: fs.map (toldF o)) [32]) = pr at hpa ⊢
  obtain ⟨q, e⟩ := pr
  clear hpr hat hmem
  dsimp only at hpa
  cases fs with
  | nil =>
    have hj := join_any w0 [nm] .full [32] (by simp) (by simp) (by rw [Lib.join_one]; omega)
    (try refine Xc_h ?_); (try (conv => whnf)); repeat (first | refine Hid.seq ?_ | (refine Hid.reg ?_; (conv => whnf)) | refine Hid.regD ?_ | refine Hid.cond rfl ?_ | refine Hid.block ?_ | refine Hid.loop ?_ | (refine Hid.exit ?_; (conv => whnf)) | (refine Hid.ret ?_; (conv => whnf)) | (refine Hid.skip ?_; (conv => whnf)) | (refine Hid.label ?_; (conv => whnf)) | refine Hid.range ?_)
    repeat' (((first | refine SIf.y Ty.mixed (by first | exact rfl | assumption | fail) ?_ | refine SIf.n Ty.mixed (by first | exact rfl | assumption | fail) ?_ | refine SCond.y (by first | exact rfl | assumption | fail) ?_ | refine SCond.n (by first | exact rfl | assumption | fail) ?_ | refine SPick.y (by first | exact rfl | assumption | fail) ?_ | refine SPick.n (by first | exact rfl | assumption | fail) ?_ | refine SPick.b ?_ | refine SPick.i ?_ | fail | refine SLoad.on 0 rfl ?_ | refine SLoad.on 1 rfl ?_ | refine SLoad.on 2 rfl ?_ | refine SLoad.on 3 rfl ?_ | refine SLoad.on 4 rfl ?_ | refine SLoad.on 5 rfl ?_ | refine SStore.on 0 rfl ?_ | refine SStore.on 1 rfl ?_ | refine SStore.on 2 rfl ?_ | refine SStore.on 3 rfl ?_ | refine SStore.on 4 rfl ?_ | refine SStore.on 5 rfl ?_ | refine SBox.f ?_ | refine SCall.p (by first | exact hfo | exact hj | exact hpa | exact hsame _) ?_ | fail | refine SApp.c rfl rfl (by first | assumption | exact Moves.more (by assumption) (by assumption) | fail) (by first | (simp only [length_aBytes, List.length_append, List.length_cons, List.length_nil, List.length_map, List.length_range]; omega) | omega | fail) fun tk1 σ1 hm => ?_ | refine SReg.t 0 [] (by decide +kernel) ?_ | refine And.intro (by first | omega | (simp only [List.length_cons, List.length_append, List.length_nil, List.length_map, length_aBytes, List.length_replicate, List.length_range]; omega) | fail) ?_ | refine ⟨_, ⟨by first | omega | (simp only [List.length_cons, List.length_append, List.length_nil, List.length_map, length_aBytes, List.length_replicate, List.length_range]; omega) | fail, by first | exact ⟨by omega, ga⟩ | exact ga | exact rfl⟩, ?_⟩ | refine ⟨_, toBytes_aBytes _, ?_⟩ | refine ⟨_, by repeat (first | exact toB_nil | apply toB_cons | apply toB_consC _ (by first | omega | (simp only [List.length_cons, List.length_append, List.length_nil, List.length_map, length_aBytes, List.length_replicate, List.length_range]; omega) | fail)), ?_⟩ | refine ⟨_, IntWalk.i64_in _ (by first | omega | (simp only [List.length_cons, List.length_append, List.length_nil, List.length_map, length_aBytes, List.length_replicate, List.length_range]; omega) | fail), ?_⟩ | refine ⟨_, wrap_u8 _, ?_⟩ | refine ⟨_, rfl, ?_⟩ | intro b5 hb5 | fail); (try refine Xc_h ?_); (try (conv => whnf)); repeat (first | refine Hid.seq ?_ | (refine Hid.reg ?_; (conv => whnf)) | refine Hid.regD ?_ | refine Hid.cond rfl ?_ | refine Hid.block ?_ | refine Hid.loop ?_ | (refine Hid.exit ?_; (conv => whnf)) | (refine Hid.ret ?_; (conv => whnf)) | (refine Hid.skip ?_; (conv => whnf)) | (refine Hid.label ?_; (conv => whnf)) | refine Hid.range ?_)))
    have hle5 : St.Le σ ((σ.setBox b5 [.str [], .nils]).setBox b5 [.str nm, .nils]) := le_new2 (.refl _) hb5
    refine SLoop.by Ty.mixed (fun _ : Unit => 0) (fun _ => [(1, .vp (eOp o)), (6, .slc 1 (strs [nm]) .full), (34, .int .i64 0), (35, .int .i64 0)]) (fun _ => []) (fun _ s => St.Le σ s) () ⟨by repeat (first | exact trivial | refine ⟨by first | trivial | exact Weak.refl _ | exact Weak.tok _ _ _ | exact Weak.of_eq (congrArg (AV.int _) (by omega)) | exact Weak.of_eq (congrArg AV.bool (by fail)) | exact Weak.nils _ _ (.inr rfl), ?_⟩), .none _, hle5⟩ ?_
    rintro _ s hls
    (try refine Xc_h ?_); (try (conv => whnf)); repeat (first | refine Hid.seq ?_ | (refine Hid.reg ?_; (conv => whnf)) | refine Hid.regD ?_ | refine Hid.cond rfl ?_ | refine Hid.block ?_ | refine Hid.loop ?_ | (refine Hid.exit ?_; (conv => whnf)) | (refine Hid.ret ?_; (conv => whnf)) | (refine Hid.skip ?_; (conv => whnf)) | (refine Hid.label ?_; (conv => whnf)) | refine Hid.range ?_)
    by_cases he : e = 0
    · have d3 : (!decide ((e : Int) = 0)) = false := by rw [decide_eq_true (by omega)]; rfl
      by_cases hq : q = o
      · have d4 : (!decide (q = o)) = false := by rw [decide_eq_true hq]; rfl
        repeat' (((first | refine SIf.y Ty.mixed (by first | exact rfl | assumption | fail) ?_ | refine SIf.n Ty.mixed (by first | exact rfl | assumption | fail) ?_ | refine SCond.y (by first | exact rfl | assumption | fail) ?_ | refine SCond.n (by first | exact rfl | assumption | fail) ?_ | refine SPick.y (by first | exact rfl | assumption | fail) ?_ | refine SPick.n (by first | exact rfl | assumption | fail) ?_ | refine SPick.b ?_ | refine SPick.i ?_ | fail | refine SLoad.on 0 rfl ?_ | refine SLoad.on 1 rfl ?_ | refine SLoad.on 2 rfl ?_ | refine SLoad.on 3 rfl ?_ | refine SLoad.on 4 rfl ?_ | refine SLoad.on 5 rfl ?_ | refine SStore.on 0 rfl ?_ | refine SStore.on 1 rfl ?_ | refine SStore.on 2 rfl ?_ | refine SStore.on 3 rfl ?_ | refine SStore.on 4 rfl ?_ | refine SStore.on 5 rfl ?_ | refine SBox.f ?_ | refine SCall.p (by first | exact hfo | exact hj | exact hpa | exact hsame _) ?_ | fail | refine SApp.c rfl rfl (by first | assumption | exact Moves.more (by assumption) (by assumption) | fail) (by first | (simp only [length_aBytes, List.length_append, List.length_cons, List.length_nil, List.length_map, List.length_range]; omega) | omega | fail) fun tk1 σ1 hm => ?_ | refine SReg.t 0 [] (by decide +kernel) ?_ | refine And.intro (by first | omega | (simp only [List.length_cons, List.length_append, List.length_nil, List.length_map, length_aBytes, List.length_replicate, List.length_range]; omega) | fail) ?_ | refine ⟨_, ⟨by first | omega | (simp only [List.length_cons, List.length_append, List.length_nil, List.length_map, length_aBytes, List.length_replicate, List.length_range]; omega) | fail, by first | exact ⟨by omega, ga⟩ | exact ga | exact rfl⟩, ?_⟩ | refine ⟨_, toBytes_aBytes _, ?_⟩ | refine ⟨_, by repeat (first | exact toB_nil | apply toB_cons | apply toB_consC _ (by first | omega | (simp only [List.length_cons, List.length_append, List.length_nil, List.length_map, length_aBytes, List.length_replicate, List.length_range]; omega) | fail)), ?_⟩ | refine ⟨_, IntWalk.i64_in _ (by first | omega | (simp only [List.length_cons, List.length_append, List.length_nil, List.length_map, length_aBytes, List.length_replicate, List.length_range]; omega) | fail), ?_⟩ | refine ⟨_, wrap_u8 _, ?_⟩ | refine ⟨_, rfl, ?_⟩ | intro b10 hb10 | fail); (try refine Xc_h ?_); (try (conv => whnf)); repeat (first | refine Hid.seq ?_ | (refine Hid.reg ?_; (conv => whnf)) | refine Hid.regD ?_ | refine Hid.cond rfl ?_ | refine Hid.block ?_ | refine Hid.loop ?_ | (refine Hid.exit ?_; (conv => whnf)) | (refine Hid.ret ?_; (conv => whnf)) | (refine Hid.skip ?_; (conv => whnf)) | (refine Hid.label ?_; (conv => whnf)) | refine Hid.range ?_)))
        rw [if_pos (by rw [hq, he])]
        exact .p (le_new2 hls hb10) rfl
      · have d4 : (!decide (q = o)) = true := by rw [decide_eq_false hq]; rfl
        repeat' (((first | refine SIf.y Ty.mixed (by first | exact rfl | assumption | fail) ?_ | refine SIf.n Ty.mixed (by first | exact rfl | assumption | fail) ?_ | refine SCond.y (by first | exact rfl | assumption | fail) ?_ | refine SCond.n (by first | exact rfl | assumption | fail) ?_ | refine SPick.y (by first | exact rfl | assumption | fail) ?_ | refine SPick.n (by first | exact rfl | assumption | fail) ?_ | refine SPick.b ?_ | refine SPick.i ?_ | fail | refine SLoad.on 0 rfl ?_ | refine SLoad.on 1 rfl ?_ | refine SLoad.on 2 rfl ?_ | refine SLoad.on 3 rfl ?_ | refine SLoad.on 4 rfl ?_ | refine SLoad.on 5 rfl ?_ | refine SStore.on 0 rfl ?_ | refine SStore.on 1 rfl ?_ | refine SStore.on 2 rfl ?_ | refine SStore.on 3 rfl ?_ | refine SStore.on 4 rfl ?_ | refine SStore.on 5 rfl ?_ | refine SBox.f ?_ | refine SCall.p (by first | exact hfo | exact hj | exact hpa | exact hsame _) ?_ | fail | refine SApp.c rfl rfl (by first | assumption | exact Moves.more (by assumption) (by assumption) | fail) (by first | (simp only [length_aBytes, List.length_append, List.length_cons, List.length_nil, List.length_map, List.length_range]; omega) | omega | fail) fun tk1 σ1 hm => ?_ | refine SReg.t 0 [] (by decide +kernel) ?_ | refine And.intro (by first | omega | (simp only [List.length_cons, List.length_append, List.length_nil, List.length_map, length_aBytes, List.length_replicate, List.length_range]; omega) | fail) ?_ | refine ⟨_, ⟨by first | omega | (simp only [List.length_cons, List.length_append, List.length_nil, List.length_map, length_aBytes, List.length_replicate, List.length_range]; omega) | fail, by first | exact ⟨by omega, ga⟩ | exact ga | exact rfl⟩, ?_⟩ | refine ⟨_, toBytes_aBytes _, ?_⟩ | refine ⟨_, by repeat (first | exact toB_nil | apply toB_cons | apply toB_consC _ (by first | omega | (simp only [List.length_cons, List.length_append, List.length_nil, List.length_map, length_aBytes, List.length_replicate, List.length_range]; omega) | fail)), ?_⟩ | refine ⟨_, IntWalk.i64_in _ (by first | omega | (simp only [List.length_cons, List.length_append, List.length_nil, List.length_map, length_aBytes, List.length_replicate, List.length_range]; omega) | fail), ?_⟩ | refine ⟨_, wrap_u8 _, ?_⟩ | refine ⟨_, rfl, ?_⟩ | intro b10 hb10 | fail); (try refine Xc_h ?_); (try (conv => whnf)); repeat (first | refine Hid.seq ?_ | (refine Hid.reg ?_; (conv => whnf)) | refine Hid.regD ?_ | refine Hid.cond rfl ?_ | refine Hid.block ?_ | refine Hid.loop ?_ | (refine Hid.exit ?_; (conv => whnf)) | (refine Hid.ret ?_; (conv => whnf)) | (refine Hid.skip ?_; (conv => whnf)) | (refine Hid.label ?_; (conv => whnf)) | refine Hid.range ?_)))
        rw [if_neg (by intro e'; cases e'; exact hq rfl)]
        exact .p (le_new2 hls hb10) rfl
    · have d3 : (!decide ((e : Int) = 0)) = true := by rw [decide_eq_false (by omega)]; rfl
      repeat' (((first | refine SIf.y Ty.mixed (by first | exact rfl | assumption | fail) ?_ | refine SIf.n Ty.mixed (by first | exact rfl | assumption | fail) ?_ | refine SCond.y (by first | exact rfl | assumption | fail) ?_ | refine SCond.n (by first | exact rfl | assumption | fail) ?_ | refine SPick.y (by first | exact rfl | assumption | fail) ?_ | refine SPick.n (by first | exact rfl | assumption | fail) ?_ | refine SPick.b ?_ | refine SPick.i ?_ | fail | refine SLoad.on 0 rfl ?_ | refine SLoad.on 1 rfl ?_ | refine SLoad.on 2 rfl ?_ | refine SLoad.on 3 rfl ?_ | refine SLoad.on 4 rfl ?_ | refine SLoad.on 5 rfl ?_ | refine SStore.on 0 rfl ?_ | refine SStore.on 1 rfl ?_ | refine SStore.on 2 rfl ?_ | refine SStore.on 3 rfl ?_ | refine SStore.on 4 rfl ?_ | refine SStore.on 5 rfl ?_ | refine SBox.f ?_ | refine SCall.p (by first | exact hfo | exact hj | exact hpa | exact hsame _) ?_ | fail | refine SApp.c rfl rfl (by first | assumption | exact Moves.more (by assumption) (by assumption) | fail) (by first | (simp only [length_aBytes, List.length_append, List.length_cons, List.length_nil, List.length_map, List.length_range]; omega) | omega | fail) fun tk1 σ1 hm => ?_ | refine SReg.t 0 [] (by decide +kernel) ?_ | refine And.intro (by first | omega | (simp only [List.length_cons, List.length_append, List.length_nil, List.length_map, length_aBytes, List.length_replicate, List.length_range]; omega) | fail) ?_ | refine ⟨_, ⟨by first | omega | (simp only [List.length_cons, List.length_append, List.length_nil, List.length_map, length_aBytes, List.length_replicate, List.length_range]; omega) | fail, by first | exact ⟨by omega, ga⟩ | exact ga | exact rfl⟩, ?_⟩ | refine ⟨_, toBytes_aBytes _, ?_⟩ | refine ⟨_, by repeat (first | exact toB_nil | apply toB_cons | apply toB_consC _ (by first | omega | (simp only [List.length_cons, List.length_append, List.length_nil, List.length_map, length_aBytes, List.length_replicate, List.length_range]; omega) | fail)), ?_⟩ | refine ⟨_, IntWalk.i64_in _ (by first | omega | (simp only [List.length_cons, List.length_append, List.length_nil, List.length_map, length_aBytes, List.length_replicate, List.length_range]; omega) | fail), ?_⟩ | refine ⟨_, wrap_u8 _, ?_⟩ | refine ⟨_, rfl, ?_⟩ | intro b10 hb10 | fail); (try refine Xc_h ?_); (try (conv => whnf)); repeat (first | refine Hid.seq ?_ | (refine Hid.reg ?_; (conv => whnf)) | refine Hid.regD ?_ | refine Hid.cond rfl ?_ | refine Hid.block ?_ | refine Hid.loop ?_ | (refine Hid.exit ?_; (conv => whnf)) | (refine Hid.ret ?_; (conv => whnf)) | (refine Hid.skip ?_; (conv => whnf)) | (refine Hid.label ?_; (conv => whnf)) | refine Hid.range ?_)))
      rw [if_neg (by intro e'; cases e'; exact he rfl)]
      exact .p (le_new2 hls hb10) rfl
  | cons f fs0 =>
    obtain ⟨fs, hfs⟩ : ∃ fs, fs = f :: fs0 := ⟨_, rfl⟩
    have hfv : fV (nm, f :: fs0) = .agg [.str nm, .slc 1 (fs.map fun f : Nat => AV.int .i64 ((f : Nat) : Int)) .full] := by rw [hfs]; rfl
    rw [hfv] at ga
    rw [← hfs] at hlen hpa hf5 hf9 ⊢
    have hfsl : (fs.map fun f : Nat => AV.int .i64 ((f : Nat) : Int)).length = fs.length := by simp
    clear hfs hfv
    (try refine Xc_h ?_); (try (conv => whnf)); repeat (first | refine Hid.seq ?_ | (refine Hid.reg ?_; (conv => whnf)) | refine Hid.regD ?_ | refine Hid.cond rfl ?_ | refine Hid.block ?_ | refine Hid.loop ?_ | (refine Hid.exit ?_; (conv => whnf)) | (refine Hid.ret ?_; (conv => whnf)) | (refine Hid.skip ?_; (conv => whnf)) | (refine Hid.label ?_; (conv => whnf)) | refine Hid.range ?_)
    repeat' (((first | refine SIf.y Ty.mixed (by first | exact rfl | assumption | fail) ?_ | refine SIf.n Ty.mixed (by first | exact rfl | assumption | fail) ?_ | refine SCond.y (by first | exact rfl | assumption | fail) ?_ | refine SCond.n (by first | exact rfl | assumption | fail) ?_ | refine SPick.y (by first | exact rfl | assumption | fail) ?_ | refine SPick.n (by first | exact rfl | assumption | fail) ?_ | refine SPick.b ?_ | refine SPick.i ?_ | fail | refine SLoad.on 0 rfl ?_ | refine SLoad.on 1 rfl ?_ | refine SLoad.on 2 rfl ?_ | refine SLoad.on 3 rfl ?_ | refine SLoad.on 4 rfl ?_ | refine SLoad.on 5 rfl ?_ | refine SStore.on 0 rfl ?_ | refine SStore.on 1 rfl ?_ | refine SStore.on 2 rfl ?_ | refine SStore.on 3 rfl ?_ | refine SStore.on 4 rfl ?_ | refine SStore.on 5 rfl ?_ | refine SBox.f ?_ | refine SCall.p (by first | exact hfo | exact hpa | exact hsame _) ?_ | fail | refine SApp.c rfl rfl (by first | assumption | exact Moves.more (by assumption) (by assumption) | fail) (by first | (simp only [length_aBytes, List.length_append, List.length_cons, List.length_nil, List.length_map, List.length_range]; omega) | omega | fail) fun tk1 σ1 hm => ?_ | refine SReg.t 0 [] (by decide +kernel) ?_ | refine And.intro (by first | omega | (simp only [List.length_cons, List.length_append, List.length_nil, List.length_map, length_aBytes, List.length_replicate, List.length_range]; omega) | fail) ?_ | refine ⟨_, ⟨by first | omega | (simp only [List.length_cons, List.length_append, List.length_nil, List.length_map, length_aBytes, List.length_replicate, List.length_range]; omega) | fail, by first | exact ⟨by omega, ga⟩ | exact ga | exact rfl⟩, ?_⟩ | refine ⟨_, toBytes_aBytes _, ?_⟩ | refine ⟨_, by repeat (first | exact toB_nil | apply toB_cons | apply toB_consC _ (by first | omega | (simp only [List.length_cons, List.length_append, List.length_nil, List.length_map, length_aBytes, List.length_replicate, List.length_range]; omega) | fail)), ?_⟩ | refine ⟨_, IntWalk.i64_in _ (by first | omega | (simp only [List.length_cons, List.length_append, List.length_nil, List.length_map, length_aBytes, List.length_replicate, List.length_range]; omega) | fail), ?_⟩ | refine ⟨_, wrap_u8 _, ?_⟩ | refine ⟨_, rfl, ?_⟩ | intro b5 hb5 | fail); (try refine Xc_h ?_); (try (conv => whnf)); repeat (first | refine Hid.seq ?_ | (refine Hid.reg ?_; (conv => whnf)) | refine Hid.regD ?_ | refine Hid.cond rfl ?_ | refine Hid.block ?_ | refine Hid.loop ?_ | (refine Hid.exit ?_; (conv => whnf)) | (refine Hid.ret ?_; (conv => whnf)) | (refine Hid.skip ?_; (conv => whnf)) | (refine Hid.label ?_; (conv => whnf)) | refine Hid.range ?_)))
    have hle5 : St.Le σ ((σ.setBox b5 [.str [], .nils]).setBox b5 [.str nm, .slc 1 (fs.map fun f : Nat => AV.int .i64 ((f : Nat) : Int)) .full]) := le_new2 (.refl _) hb5
    refine SLoop.by Ty.mixed (fun ((j, tk) : Nat × Tok) => fs.length - j) (fun (j, tk) => [(1, .vp (eOp o)), (6, .slc 1 (strs (nm :: (fs.take j).map (toldF o))) tk), (33, .slc 1 (fs.map fun f : Nat => AV.int .i64 ((f : Nat) : Int)) .full), (34, .int .i64 (fs.map fun f : Nat => AV.int .i64 ((f : Nat) : Int)).length), (35, .int .i64 j)]) (fun _ => [])
      (fun (j, tk) s => j ≤ fs.length ∧ Moves σ .full s tk) (0, .full) ⟨by repeat (first | exact trivial | refine ⟨by first | trivial | exact Weak.refl _ | exact Weak.tok _ _ _ | exact Weak.of_eq (congrArg (AV.int _) (by omega)) | exact Weak.of_eq (congrArg AV.bool (by fail)) | exact Weak.nils _ _ (.inr rfl), ?_⟩), .none _, Nat.zero_le _, .new2 (.full _) hb5⟩ ?_
    rintro ⟨j, tk⟩ s ⟨hj, hm⟩
    dsimp only at hj hm ⊢
    by_cases hjl : j < fs.length
    · have gf : (fs.map fun f : Nat => AV.int .i64 ((f : Nat) : Int))[j]? = some (.int .i64 fs[j]) := by simp [hjl]
      have htk : fs.take (j + 1) = fs.take j ++ [fs[j]] := by rw [List.take_add_one]; simp [hjl]
      have hf := hf9 _ (List.getElem_mem hjl)
      have hp := place_vp w0 o fs[j] hf
      have ht := told_any w0 hL o fs[j] hf (by have := ho.s; omega) ho.i
      generalize fs[j] = f9 at *
      have hl1 : (strs (nm :: (fs.take j).map (toldF o))).length ≤ 6 := by rw [strs_len8]; simp; omega
      have hsn : strs (nm :: (fs.take (j + 1)).map (toldF o)) = strs (nm :: (fs.take j).map (toldF o)) ++ [.str (toldF o f9)] := by rw [htk]; simp [strs]
      generalize strs (nm :: (fs.take j).map (toldF o)) = row at *
      rcases nine hf with rfl | rfl | rfl | rfl | rfl | rfl | rfl | rfl | rfl
      all_goals
        (try refine Xc_h ?_); (try (conv => whnf)); repeat (first | refine Hid.seq ?_ | (refine Hid.reg ?_; (conv => whnf)) | refine Hid.regD ?_ | refine Hid.cond rfl ?_ | refine Hid.block ?_ | refine Hid.loop ?_ | (refine Hid.exit ?_; (conv => whnf)) | (refine Hid.ret ?_; (conv => whnf)) | (refine Hid.skip ?_; (conv => whnf)) | (refine Hid.label ?_; (conv => whnf)) | refine Hid.range ?_)
        repeat' (((first | refine SIf.y Ty.mixed (by first | exact rfl | assumption | fail) ?_ | refine SIf.n Ty.mixed (by first | exact rfl | assumption | fail) ?_ | refine SCond.y (by first | exact rfl | assumption | fail) ?_ | refine SCond.n (by first | exact rfl | assumption | fail) ?_ | refine SPick.y (by first | exact rfl | assumption | fail) ?_ | refine SPick.n (by first | exact rfl | assumption | fail) ?_ | refine SPick.b ?_ | refine SPick.i ?_ | fail | refine SLoad.on 0 rfl ?_ | refine SLoad.on 1 rfl ?_ | refine SLoad.on 2 rfl ?_ | refine SLoad.on 3 rfl ?_ | refine SLoad.on 4 rfl ?_ | refine SLoad.on 5 rfl ?_ | refine SStore.on 0 rfl ?_ | refine SStore.on 1 rfl ?_ | refine SStore.on 2 rfl ?_ | refine SStore.on 3 rfl ?_ | refine SStore.on 4 rfl ?_ | refine SStore.on 5 rfl ?_ | refine SBox.f ?_ | refine SCall.p (by first | exact hp | exact ht) ?_ | fail | refine SApp.c rfl rfl (by first | assumption | exact Moves.more (by assumption) (by assumption) | fail) (by (simp only [List.length_cons, List.length_nil]; omega)) fun tk1 σ1 hm => ?_ | refine SReg.t 0 [] (by decide +kernel) ?_ | refine And.intro (by first | omega | (simp only [List.length_cons, List.length_append, List.length_nil, List.length_map, length_aBytes, List.length_replicate, List.length_range]; omega) | fail) ?_ | refine ⟨_, ⟨by first | omega | (simp only [List.length_cons, List.length_append, List.length_nil, List.length_map, length_aBytes, List.length_replicate, List.length_range]; omega) | fail, by exact gf⟩, ?_⟩ | refine ⟨_, toBytes_aBytes _, ?_⟩ | refine ⟨_, by repeat (first | exact toB_nil | apply toB_cons | apply toB_consC _ (by first | omega | (simp only [List.length_cons, List.length_append, List.length_nil, List.length_map, length_aBytes, List.length_replicate, List.length_range]; omega) | fail)), ?_⟩ | refine ⟨_, IntWalk.i64_in _ (by first | omega | (simp only [List.length_cons, List.length_append, List.length_nil, List.length_map, length_aBytes, List.length_replicate, List.length_range]; omega) | fail), ?_⟩ | refine ⟨_, wrap_u8 _, ?_⟩ | refine ⟨_, rfl, ?_⟩ | first | intro b1 hb1 | fail | fail); (try refine Xc_h ?_); (try (conv => whnf)); repeat (first | refine Hid.seq ?_ | (refine Hid.reg ?_; (conv => whnf)) | refine Hid.regD ?_ | refine Hid.cond rfl ?_ | refine Hid.block ?_ | refine Hid.loop ?_ | (refine Hid.exit ?_; (conv => whnf)) | (refine Hid.ret ?_; (conv => whnf)) | (refine Hid.skip ?_; (conv => whnf)) | (refine Hid.label ?_; (conv => whnf)) | refine Hid.range ?_)))
        refine SIf.y Ty.mixed (decide_eq_true (by rw [hfsl]; omega)) ?_
        (try refine Xc_h ?_); (try (conv => whnf)); repeat (first | refine Hid.seq ?_ | (refine Hid.reg ?_; (conv => whnf)) | refine Hid.regD ?_ | refine Hid.cond rfl ?_ | refine Hid.block ?_ | refine Hid.loop ?_ | (refine Hid.exit ?_; (conv => whnf)) | (refine Hid.ret ?_; (conv => whnf)) | (refine Hid.skip ?_; (conv => whnf)) | (refine Hid.label ?_; (conv => whnf)) | refine Hid.range ?_)
        repeat' (((first | refine SIf.y Ty.mixed (by first | exact rfl | assumption | fail) ?_ | refine SIf.n Ty.mixed (by first | exact rfl | assumption | fail) ?_ | refine SCond.y (by first | exact rfl | assumption | fail) ?_ | refine SCond.n (by first | exact rfl | assumption | fail) ?_ | refine SPick.y (by first | exact rfl | assumption | fail) ?_ | refine SPick.n (by first | exact rfl | assumption | fail) ?_ | refine SPick.b ?_ | refine SPick.i ?_ | fail | refine SLoad.on 0 rfl ?_ | refine SLoad.on 1 rfl ?_ | refine SLoad.on 2 rfl ?_ | refine SLoad.on 3 rfl ?_ | refine SLoad.on 4 rfl ?_ | refine SLoad.on 5 rfl ?_ | refine SStore.on 0 rfl ?_ | refine SStore.on 1 rfl ?_ | refine SStore.on 2 rfl ?_ | refine SStore.on 3 rfl ?_ | refine SStore.on 4 rfl ?_ | refine SStore.on 5 rfl ?_ | refine SBox.f ?_ | refine SCall.p (by first | exact hp | exact ht) ?_ | fail | refine SApp.c rfl rfl (by first | assumption | exact Moves.more (by assumption) (by assumption) | fail) (by (simp only [List.length_cons, List.length_nil]; omega)) fun tk1 σ1 hm => ?_ | refine SReg.t 0 [] (by decide +kernel) ?_ | refine And.intro (by first | omega | (simp only [List.length_cons, List.length_append, List.length_nil, List.length_map, length_aBytes, List.length_replicate, List.length_range]; omega) | fail) ?_ | refine ⟨_, ⟨by first | omega | (simp only [List.length_cons, List.length_append, List.length_nil, List.length_map, length_aBytes, List.length_replicate, List.length_range]; omega) | fail, by exact gf⟩, ?_⟩ | refine ⟨_, toBytes_aBytes _, ?_⟩ | refine ⟨_, by repeat (first | exact toB_nil | apply toB_cons | apply toB_consC _ (by first | omega | (simp only [List.length_cons, List.length_append, List.length_nil, List.length_map, length_aBytes, List.length_replicate, List.length_range]; omega) | fail)), ?_⟩ | refine ⟨_, IntWalk.i64_in _ (by first | omega | (simp only [List.length_cons, List.length_append, List.length_nil, List.length_map, length_aBytes, List.length_replicate, List.length_range]; omega) | fail), ?_⟩ | refine ⟨_, wrap_u8 _, ?_⟩ | refine ⟨_, rfl, ?_⟩ | first | intro b1 hb1 | fail | fail); (try refine Xc_h ?_); (try (conv => whnf)); repeat (first | refine Hid.seq ?_ | (refine Hid.reg ?_; (conv => whnf)) | refine Hid.regD ?_ | refine Hid.cond rfl ?_ | refine Hid.block ?_ | refine Hid.loop ?_ | (refine Hid.exit ?_; (conv => whnf)) | (refine Hid.ret ?_; (conv => whnf)) | (refine Hid.skip ?_; (conv => whnf)) | (refine Hid.label ?_; (conv => whnf)) | refine Hid.range ?_)))
        refine ⟨(j + 1, tk1), by show fs.length - (j + 1) < fs.length - j; omega, ?_, .none _, hjl, by assumption⟩
        show xWeak [(1, .vp (eOp o)), (6, .slc 1 (strs (nm :: (fs.take (j + 1)).map (toldF o))) tk1), (33, .slc 1 (fs.map fun f : Nat => AV.int .i64 ((f : Nat) : Int)) .full), (34, .int .i64 (fs.map fun f : Nat => AV.int .i64 ((f : Nat) : Int)).length), (35, .int .i64 ((j + 1 : Nat) : Int))] _
        rw [hsn]
        repeat (first | exact trivial | refine ⟨by first | trivial | exact Weak.refl _ | exact Weak.tok _ _ _ | exact Weak.of_eq (congrArg (AV.int _) (by omega)) | exact Weak.of_eq (congrArg AV.bool (by fail)) | exact Weak.nils _ _ (.inr rfl), ?_⟩)
    · have hge : j = fs.length := by omega
      subst hge
      have hj := join_any w0 (nm :: fs.map (toldF o)) tk [32] (by simp) (by simp; omega) (by omega)
      rw [List.take_length]
      (try refine Xc_h ?_); (try (conv => whnf)); repeat (first | refine Hid.seq ?_ | (refine Hid.reg ?_; (conv => whnf)) | refine Hid.regD ?_ | refine Hid.cond rfl ?_ | refine Hid.block ?_ | refine Hid.loop ?_ | (refine Hid.exit ?_; (conv => whnf)) | (refine Hid.ret ?_; (conv => whnf)) | (refine Hid.skip ?_; (conv => whnf)) | (refine Hid.label ?_; (conv => whnf)) | refine Hid.range ?_)
      repeat' (((first | refine SIf.y Ty.mixed (by first | exact rfl | assumption | fail) ?_ | refine SIf.n Ty.mixed (by first | exact rfl | assumption | fail) ?_ | refine SCond.y (by first | exact rfl | assumption | fail) ?_ | refine SCond.n (by first | exact rfl | assumption | fail) ?_ | refine SPick.y (by first | exact rfl | assumption | fail) ?_ | refine SPick.n (by first | exact rfl | assumption | fail) ?_ | refine SPick.b ?_ | refine SPick.i ?_ | fail | refine SLoad.on 0 rfl ?_ | refine SLoad.on 1 rfl ?_ | refine SLoad.on 2 rfl ?_ | refine SLoad.on 3 rfl ?_ | refine SLoad.on 4 rfl ?_ | refine SLoad.on 5 rfl ?_ | refine SStore.on 0 rfl ?_ | refine SStore.on 1 rfl ?_ | refine SStore.on 2 rfl ?_ | refine SStore.on 3 rfl ?_ | refine SStore.on 4 rfl ?_ | refine SStore.on 5 rfl ?_ | refine SBox.f ?_ | refine SCall.p (by first | exact hj | exact hpa | exact hsame _) ?_ | fail | refine SApp.c rfl rfl (by first | assumption | exact Moves.more (by assumption) (by assumption) | fail) (by (simp only [List.length_cons, List.length_nil]; omega)) fun tk1 σ1 hm => ?_ | refine SReg.t 0 [] (by decide +kernel) ?_ | refine And.intro (by first | omega | (simp only [List.length_cons, List.length_append, List.length_nil, List.length_map, length_aBytes, List.length_replicate, List.length_range]; omega) | fail) ?_ | refine ⟨_, ⟨by first | omega | (simp only [List.length_cons, List.length_append, List.length_nil, List.length_map, length_aBytes, List.length_replicate, List.length_range]; omega) | fail, by exact gf⟩, ?_⟩ | refine ⟨_, toBytes_aBytes _, ?_⟩ | refine ⟨_, by repeat (first | exact toB_nil | apply toB_cons | apply toB_consC _ (by first | omega | (simp only [List.length_cons, List.length_append, List.length_nil, List.length_map, length_aBytes, List.length_replicate, List.length_range]; omega) | fail)), ?_⟩ | refine ⟨_, IntWalk.i64_in _ (by first | omega | (simp only [List.length_cons, List.length_append, List.length_nil, List.length_map, length_aBytes, List.length_replicate, List.length_range]; omega) | fail), ?_⟩ | refine ⟨_, wrap_u8 _, ?_⟩ | refine ⟨_, rfl, ?_⟩ | first | intro b1 hb1 | fail | fail); (try refine Xc_h ?_); (try (conv => whnf)); repeat (first | refine Hid.seq ?_ | (refine Hid.reg ?_; (conv => whnf)) | refine Hid.regD ?_ | refine Hid.cond rfl ?_ | refine Hid.block ?_ | refine Hid.loop ?_ | (refine Hid.exit ?_; (conv => whnf)) | (refine Hid.ret ?_; (conv => whnf)) | (refine Hid.skip ?_; (conv => whnf)) | (refine Hid.label ?_; (conv => whnf)) | refine Hid.range ?_)))
      refine SIf.n Ty.mixed (decide_eq_false (by rw [hfsl]; omega)) ?_
      (try refine Xc_h ?_); (try (conv => whnf)); repeat (first | refine Hid.seq ?_ | (refine Hid.reg ?_; (conv => whnf)) | refine Hid.regD ?_ | refine Hid.cond rfl ?_ | refine Hid.block ?_ | refine Hid.loop ?_ | (refine Hid.exit ?_; (conv => whnf)) | (refine Hid.ret ?_; (conv => whnf)) | (refine Hid.skip ?_; (conv => whnf)) | (refine Hid.label ?_; (conv => whnf)) | refine Hid.range ?_)
      by_cases he : e = 0
      · have d3 : (!decide ((e : Int) = 0)) = false := by rw [decide_eq_true (by omega)]; rfl
        by_cases hq : q = o
        · have d4 : (!decide (q = o)) = false := by rw [decide_eq_true hq]; rfl
          repeat' (((first | refine SIf.y Ty.mixed (by first | exact rfl | assumption | fail) ?_ | refine SIf.n Ty.mixed (by first | exact rfl | assumption | fail) ?_ | refine SCond.y (by first | exact rfl | assumption | fail) ?_ | refine SCond.n (by first | exact rfl | assumption | fail) ?_ | refine SPick.y (by first | exact rfl | assumption | fail) ?_ | refine SPick.n (by first | exact rfl | assumption | fail) ?_ | refine SPick.b ?_ | refine SPick.i ?_ | fail | refine SLoad.on 0 rfl ?_ | refine SLoad.on 1 rfl ?_ | refine SLoad.on 2 rfl ?_ | refine SLoad.on 3 rfl ?_ | refine SLoad.on 4 rfl ?_ | refine SLoad.on 5 rfl ?_ | refine SStore.on 0 rfl ?_ | refine SStore.on 1 rfl ?_ | refine SStore.on 2 rfl ?_ | refine SStore.on 3 rfl ?_ | refine SStore.on 4 rfl ?_ | refine SStore.on 5 rfl ?_ | refine SBox.f ?_ | refine SCall.p (by first | exact hj | exact hpa | exact hsame _) ?_ | fail | refine SApp.c rfl rfl (by first | assumption | exact Moves.more (by assumption) (by assumption) | fail) (by (simp only [List.length_cons, List.length_nil]; omega)) fun tk1 σ1 hm => ?_ | refine SReg.t 0 [] (by decide +kernel) ?_ | refine And.intro (by first | omega | (simp only [List.length_cons, List.length_append, List.length_nil, List.length_map, length_aBytes, List.length_replicate, List.length_range]; omega) | fail) ?_ | refine ⟨_, ⟨by first | omega | (simp only [List.length_cons, List.length_append, List.length_nil, List.length_map, length_aBytes, List.length_replicate, List.length_range]; omega) | fail, by exact gf⟩, ?_⟩ | refine ⟨_, toBytes_aBytes _, ?_⟩ | refine ⟨_, by repeat (first | exact toB_nil | apply toB_cons | apply toB_consC _ (by first | omega | (simp only [List.length_cons, List.length_append, List.length_nil, List.length_map, length_aBytes, List.length_replicate, List.length_range]; omega) | fail)), ?_⟩ | refine ⟨_, IntWalk.i64_in _ (by first | omega | (simp only [List.length_cons, List.length_append, List.length_nil, List.length_map, length_aBytes, List.length_replicate, List.length_range]; omega) | fail), ?_⟩ | refine ⟨_, wrap_u8 _, ?_⟩ | refine ⟨_, rfl, ?_⟩ | intro b10 hb10 | fail); (try refine Xc_h ?_); (try (conv => whnf)); repeat (first | refine Hid.seq ?_ | (refine Hid.reg ?_; (conv => whnf)) | refine Hid.regD ?_ | refine Hid.cond rfl ?_ | refine Hid.block ?_ | refine Hid.loop ?_ | (refine Hid.exit ?_; (conv => whnf)) | (refine Hid.ret ?_; (conv => whnf)) | (refine Hid.skip ?_; (conv => whnf)) | (refine Hid.label ?_; (conv => whnf)) | refine Hid.range ?_)))
          rw [if_pos (by rw [hq, he])]
          exact .p (le_new2 hm.le hb10) rfl
        · have d4 : (!decide (q = o)) = true := by rw [decide_eq_false hq]; rfl
          repeat' (((first | refine SIf.y Ty.mixed (by first | exact rfl | assumption | fail) ?_ | refine SIf.n Ty.mixed (by first | exact rfl | assumption | fail) ?_ | refine SCond.y (by first | exact rfl | assumption | fail) ?_ | refine SCond.n (by first | exact rfl | assumption | fail) ?_ | refine SPick.y (by first | exact rfl | assumption | fail) ?_ | refine SPick.n (by first | exact rfl | assumption | fail) ?_ | refine SPick.b ?_ | refine SPick.i ?_ | fail | refine SLoad.on 0 rfl ?_ | refine SLoad.on 1 rfl ?_ | refine SLoad.on 2 rfl ?_ | refine SLoad.on 3 rfl ?_ | refine SLoad.on 4 rfl ?_ | refine SLoad.on 5 rfl ?_ | refine SStore.on 0 rfl ?_ | refine SStore.on 1 rfl ?_ | refine SStore.on 2 rfl ?_ | refine SStore.on 3 rfl ?_ | refine SStore.on 4 rfl ?_ | refine SStore.on 5 rfl ?_ | refine SBox.f ?_ | refine SCall.p (by first | exact hj | exact hpa | exact hsame _) ?_ | fail | refine SApp.c rfl rfl (by first | assumption | exact Moves.more (by assumption) (by assumption) | fail) (by (simp only [List.length_cons, List.length_nil]; omega)) fun tk1 σ1 hm => ?_ | refine SReg.t 0 [] (by decide +kernel) ?_ | refine And.intro (by first | omega | (simp only [List.length_cons, List.length_append, List.length_nil, List.length_map, length_aBytes, List.length_replicate, List.length_range]; omega) | fail) ?_ | refine ⟨_, ⟨by first | omega | (simp only [List.length_cons, List.length_append, List.length_nil, List.length_map, length_aBytes, List.length_replicate, List.length_range]; omega) | fail, by exact gf⟩, ?_⟩ | refine ⟨_, toBytes_aBytes _, ?_⟩ | refine ⟨_, by repeat (first | exact toB_nil | apply toB_cons | apply toB_consC _ (by first | omega | (simp only [List.length_cons, List.length_append, List.length_nil, List.length_map, length_aBytes, List.length_replicate, List.length_range]; omega) | fail)), ?_⟩ | refine ⟨_, IntWalk.i64_in _ (by first | omega | (simp only [List.length_cons, List.length_append, List.length_nil, List.length_map, length_aBytes, List.length_replicate, List.length_range]; omega) | fail), ?_⟩ | refine ⟨_, wrap_u8 _, ?_⟩ | refine ⟨_, rfl, ?_⟩ | intro b10 hb10 | fail); (try refine Xc_h ?_); (try (conv => whnf)); repeat (first | refine Hid.seq ?_ | (refine Hid.reg ?_; (conv => whnf)) | refine Hid.regD ?_ | refine Hid.cond rfl ?_ | refine Hid.block ?_ | refine Hid.loop ?_ | (refine Hid.exit ?_; (conv => whnf)) | (refine Hid.ret ?_; (conv => whnf)) | (refine Hid.skip ?_; (conv => whnf)) | (refine Hid.label ?_; (conv => whnf)) | refine Hid.range ?_)))
          rw [if_neg (by intro e'; cases e'; exact hq rfl)]
          exact .p (le_new2 hm.le hb10) rfl
      · have d3 : (!decide ((e : Int) = 0)) = true := by rw [decide_eq_false (by omega)]; rfl
        repeat' (((first | refine SIf.y Ty.mixed (by first | exact rfl | assumption | fail) ?_ | refine SIf.n Ty.mixed (by first | exact rfl | assumption | fail) ?_ | refine SCond.y (by first | exact rfl | assumption | fail) ?_ | refine SCond.n (by first | exact rfl | assumption | fail) ?_ | refine SPick.y (by first | exact rfl | assumption | fail) ?_ | refine SPick.n (by first | exact rfl | assumption | fail) ?_ | refine SPick.b ?_ | refine SPick.i ?_ | fail | refine SLoad.on 0 rfl ?_ | refine SLoad.on 1 rfl ?_ | refine SLoad.on 2 rfl ?_ | refine SLoad.on 3 rfl ?_ | refine SLoad.on 4 rfl ?_ | refine SLoad.on 5 rfl ?_ | refine SStore.on 0 rfl ?_ | refine SStore.on 1 rfl ?_ | refine SStore.on 2 rfl ?_ | refine SStore.on 3 rfl ?_ | refine SStore.on 4 rfl ?_ | refine SStore.on 5 rfl ?_ | refine SBox.f ?_ | refine SCall.p (by first | exact hj | exact hpa | exact hsame _) ?_ | fail | refine SApp.c rfl rfl (by first | assumption | exact Moves.more (by assumption) (by assumption) | fail) (by (simp only [List.length_cons, List.length_nil]; omega)) fun tk1 σ1 hm => ?_ | refine SReg.t 0 [] (by decide +kernel) ?_ | refine And.intro (by first | omega | (simp only [List.length_cons, List.length_append, List.length_nil, List.length_map, length_aBytes, List.length_replicate, List.length_range]; omega) | fail) ?_ | refine ⟨_, ⟨by first | omega | (simp only [List.length_cons, List.length_append, List.length_nil, List.length_map, length_aBytes, List.length_replicate, List.length_range]; omega) | fail, by exact gf⟩, ?_⟩ | refine ⟨_, toBytes_aBytes _, ?_⟩ | refine ⟨_, by repeat (first | exact toB_nil | apply toB_cons | apply toB_consC _ (by first | omega | (simp only [List.length_cons, List.length_append, List.length_nil, List.length_map, length_aBytes, List.length_replicate, List.length_range]; omega) | fail)), ?_⟩ | refine ⟨_, IntWalk.i64_in _ (by first | omega | (simp only [List.length_cons, List.length_append, List.length_nil, List.length_map, length_aBytes, List.length_replicate, List.length_range]; omega) | fail), ?_⟩ | refine ⟨_, wrap_u8 _, ?_⟩ | refine ⟨_, rfl, ?_⟩ | intro b10 hb10 | fail); (try refine Xc_h ?_); (try (conv => whnf)); repeat (first | refine Hid.seq ?_ | (refine Hid.reg ?_; (conv => whnf)) | refine Hid.regD ?_ | refine Hid.cond rfl ?_ | refine Hid.block ?_ | refine Hid.loop ?_ | (refine Hid.exit ?_; (conv => whnf)) | (refine Hid.ret ?_; (conv => whnf)) | (refine Hid.skip ?_; (conv => whnf)) | (refine Hid.label ?_; (conv => whnf)) | refine Hid.range ?_)))
        rw [if_neg (by intro e'; cases e'; exact he rfl)]
        exact .p (le_new2 hm.le hb10) rfl
end Go.Proofs.YtjcikceophcooaaDoor
end
section
set_option linter.unusedVariables false
namespace Go.Proofs.YtjcikceophcooaaDoor
open Go.Al
end Go.Proofs.YtjcikceophcooaaDoor
end
section
set_option linter.unusedVariables false
set_option linter.unusedSimpArgs false
set_option maxRecDepth 100000
set_option maxHeartbeats 4000000
namespace Go.Proofs.YtjcikceophcooaaDoor
open Go.Al Go.RowKit
structure RepV where
  err : Int
  n : Int
  list : List Msg
  data : List UInt8
def eRep (r : RepV) : AV := .agg [.int .u16 r.err, .int .i64 r.n, .slc 8 (r.list.map eMsg) .no, .slc 1 (aBytes r.data) .no]
def comT (l : List Int) : List UInt8 := l.flatMap fun n => Lib.itoa n ++ [44]
def showM (m : Msg) : List UInt8 := 32 :: (comT [m.seq, m.tries, m.until_, m.prio] ++ (quoteT m.body ++ [44] ++ quoteT m.attr ++ [44] ++ quoteT m.why))
def showD (d : List UInt8) : List UInt8 := if d = [] then [] else [32, 35] ++ d.flatMap hexT
def showT (r : RepV) : List UInt8 := if r.err ≠ 0 then [101, 114, 114, 32] ++ Lib.itoa r.err else [111, 107, 32] ++ Lib.itoa r.n ++ r.list.flatMap showM ++ showD r.data
def In64 (n : Int) : Prop := -9223372036854775808 ≤ n ∧ n ≤ 9223372036854775807
structure MsgS (m : Msg) : Prop where
  body : m.body.length ≤ 1048576
  attr : m.attr.length ≤ 1048576
  why : m.why.length ≤ 1048576
  seq : In64 m.seq
  tries : In64 m.tries
  unt : In64 m.until_
  prio : In64 m.prio
structure RepS (r : RepV) : Prop where
  err : 0 ≤ r.err ∧ r.err ≤ 65535
  n : In64 r.n
  len : r.list.length ≤ 1048576
  msgs : ∀ m ∈ r.list, MsgS m
  data : r.data.length ≤ 1048576
theorem comT_len : ∀ {l : List Int}, (∀ n ∈ l, In64 n) → (comT l).length ≤ 22 * l.length
  | [], _ => by simp [comT]
  | n :: l, h => by
    have h1 := itoa_len20 (h n (by simp))
    have h2 := comT_len (l := l) fun x hx => h x (by simp [hx])
    rw [comT, List.flatMap_cons, List.length_append, List.length_cons] 
    rw [comT] at h2
    simp only [List.length_append, List.length_singleton]
    omega
theorem MsgS.four {m : Msg} (h : MsgS m) : ∀ n ∈ [m.seq, m.tries, m.until_, m.prio], In64 n := by
  intro n hn
  simp only [List.mem_cons, List.not_mem_nil, or_false] at hn
  rcases hn with rfl | rfl | rfl | rfl
  · exact h.seq
  · exact h.tries
  · exact h.unt
  · exact h.prio
theorem showM_len {m : Msg} (h : MsgS m) : (showM m).length ≤ 9437300 := by
  have h1 := comT_len h.four
  have h2 := quoteT_len m.body
  have h3 := quoteT_len m.attr
  have h4 := quoteT_len m.why
  have h5 := h.body
  have h6 := h.attr
  have h7 := h.why
  simp only [List.length_cons, List.length_nil] at h1
  simp only [showM, List.length_cons, List.length_append, List.length_nil]
  omega
theorem shows_len : ∀ {l : List Msg}, (∀ m ∈ l, MsgS m) → (l.flatMap showM).length ≤ 9437300 * l.length
  | [], _ => by simp
  | m :: l, h => by
    have h1 := showM_len (h m (by simp))
    have h2 := shows_len (l := l) fun x hx => h x (by simp [hx])
    rw [List.flatMap_cons, List.length_append, List.length_cons]
    omega
theorem hexs_len : ∀ l : List UInt8, (l.flatMap hexT).length = 2 * l.length
  | [] => rfl
  | c :: l => by rw [List.flatMap_cons, List.length_append, hexs_len l, List.length_cons]; simp [hexT]; omega
theorem Bld.add {σ τ : St} {b c : Nat} {bs : List UInt8} {cs : List AV} (h : Bld σ τ b bs) (hc : τ.box c = none) : Bld (σ.setBox c cs) (τ.setBox c cs) b bs := by
  obtain ⟨ad, v, o, hb, had, hr, ho⟩ := h.here
  have hcb : b ≠ c := by rintro rfl; rw [hc] at hb; cases hb
  have hco : o ≠ some c := fun e => by
    rcases hr.go with ⟨_, _, h1⟩ | ⟨b0, _, _, _, h1, _, h3, _⟩
    · rw [e] at h1; cases h1
    · rw [e] at h1; cases h1; rw [hc] at h3; cases h3
  refine ⟨h.tag, by rw [setBox_ne hcb]; exact h.new, le_both h.le, ad, v, o, by rw [setBox_ne hcb]; exact hb, had, rowT_set hr hco, fun i e => ?_⟩
  rw [setBox_ne (fun e2 => hco (by rw [e, e2]))]
  exact ho i e
theorem Bld.less {σ' σ τ : St} {b : Nat} {bs : List UInt8} (h : Bld σ τ b bs) (hl : St.Le σ' σ) : Bld σ' τ b bs := by
  obtain ⟨ad, v, o, hb, had, hr, ho⟩ := h.here
  exact ⟨h.tag, le_none hl h.new, hl.trans h.le, ad, v, o, hb, had, hr, fun i e => le_none hl (ho i e)⟩
theorem Bld.none {σ τ : St} {b c : Nat} {bs : List UInt8} (h : Bld σ τ b bs) (hc : τ.box c = none) : σ.box c = none := le_none h.le hc
end Go.Proofs.YtjcikceophcooaaDoor
end
section
set_option linter.unusedVariables false
set_option linter.unusedSimpArgs false
set_option maxRecDepth 100000
set_option maxHeartbeats 4000000
namespace Go.Proofs.YtjcikceophcooaaDoor
open Go.Al Go.RowKit
theorem show_any (w0 : Base) (hL : Laid w0) (r : RepV) (hr : RepS r) : CallP Tryd.prog w0 12 [eRep r] (.str (showT r)) := by
  refine CallP.h Ty.tok Ty.mixed Tryd.func12 rfl Tryd.ntmps12 rfl (by simp) (by decide +kernel) fun σ => ?_
  obtain ⟨herr, hn, hlen, hmsgs, hdata⟩ := hr
  obtain ⟨err, n, l, d⟩ := r
  dsimp only at herr hn hlen hmsgs hdata
  have hi1 := itoa_any w0 hL err (by omega) (by omega)
  have hi2 := itoa_any w0 hL n hn.1 hn.2
  have hl1 := itoa_len20 (n := err) ⟨by omega, by omega⟩
  have hl2 := itoa_len20 (n := n) hn
  have hwr : IntKind.i64.wrap err = err := IntWalk.i64_in _ (by omega)
  by_cases he : err = 0
  · subst he
    rw [showT, if_neg (by simp)]
    (conv => whnf); refine Hid.seq ?_; refine Hid.reg ?_; (conv => whnf); refine SBox.f ?_; (conv => whnf); refine Hid.seq ?_; refine Hid.seq ?_; refine Hid.reg ?_; (conv => whnf); refine Hid.cond rfl ?_; refine SIf.n Ty.mixed (by exact rfl) ?_; refine Xc_h ?_; (conv => whnf); refine Hid.skip ?_; (conv => whnf); refine Hid.seq ?_; refine Hid.reg ?_; (conv => whnf)
    refine ⟨by decide, fun b3 ht3 hb3 => ?_⟩
    (conv => whnf); refine Hid.seq ?_; refine Hid.reg ?_; (conv => whnf); refine SCall.p (by exact hi2) ?_; (conv => whnf); refine And.intro (by simp only [List.length_cons, List.length_nil, List.length_append]; omega) ?_; (conv => whnf); refine SCall.w (writeString_any w0 (Bld.start ht3 hb3) ([111, 107, 32] ++ Lib.itoa n) (by simp) (by simp; omega)) rfl ?_; rintro r s ⟨rfl, hb⟩ hB
    refine ⟨_, Know.nil s, ?_⟩
    rw [List.nil_append] at hb
    (conv => whnf); refine Hid.seq ?_; refine Hid.seq ?_; refine Hid.reg ?_; (conv => whnf); refine Hid.block ?_; refine Hid.loop ?_
    skip
    obtain ⟨P, hP⟩ : ∃ P, P = [111, 107, 32] ++ Lib.itoa n := ⟨_, rfl⟩
    have hPl : P.length ≤ 24 := by rw [hP]; simp; omega
    rw [← hP] at hb ⊢
    clear hi1 hi2 hwr
    have hml : (l.map eMsg).length = l.length := by simp
    refine SLoop.by Ty.mixed (fun i : Nat => l.length - i) (fun i => [(1, .vp (eRep ⟨0, n, l, d⟩)), (3, .ptr b3 0), (24, .slc 8 (l.map eMsg) .no), (25, .int .i64 (l.map eMsg).length), (26, .int .i64 i)]) (fun _ => []) (fun i τ => i ≤ l.length ∧ Bld σ τ b3 (P ++ (l.take i).flatMap showM)) 0 ⟨by repeat (first | exact trivial | refine ⟨by first | trivial | exact Weak.refl _ | exact Weak.tok _ _ _ | exact Weak.of_eq (congrArg (AV.int _) (by omega)) | exact Weak.of_eq (congrArg AV.bool (by fail)) | exact Weak.nils _ _ (.inr rfl), ?_⟩), .none _, Nat.zero_le _, by simpa using hb⟩ ?_
    clear hb hB; rintro i τ ⟨hi, hb⟩
    have hsl := shows_len (l := l.take i) fun m hm => hmsgs m (List.mem_of_mem_take hm)
    have htl : (l.take i).length ≤ 1048576 := by rw [List.length_take]; omega
    by_cases hlt : i < l.length
    · have ga : (l.map eMsg)[i]? = some (eMsg l[i]) := by simp [hlt]
      have hm := hmsgs _ (List.getElem_mem hlt)
      have htk : (l.take (i + 1)).flatMap showM = (l.take i).flatMap showM ++ showM l[i] := by
        rw [List.take_succ_eq_append_getElem hlt, List.flatMap_append]; simp
      obtain ⟨Q, hQ⟩ : ∃ Q, Q = P ++ (l.take i).flatMap showM := ⟨_, rfl⟩
      have hQl : Q.length ≤ 10000000000000 := by rw [hQ, List.length_append]; omega
      rw [← hQ] at hb
      rw [showM] at htk
      generalize l[i] = m at *
      refine Xc_h ?_; (conv => whnf); refine Hid.seq ?_; refine Hid.reg ?_; (conv => whnf); refine Hid.seq ?_; refine Hid.cond rfl ?_
      skip
      refine SIf.y Ty.mixed (decide_eq_true (by rw [hml]; omega)) ?_; refine Xc_h ?_; (conv => whnf); refine Hid.skip ?_; (conv => whnf); refine Hid.seq ?_; refine Hid.seq ?_; refine Hid.reg ?_; (conv => whnf)
      refine ⟨_, ⟨by first | omega | (simp only [List.length_cons, List.length_nil, List.length_append]; omega) | fail, by exact ga⟩, ?_⟩
      (conv => whnf); intro b5 hb5; (conv => whnf); refine SStore.on 0 rfl ?_; (conv => whnf); refine Hid.seq ?_; refine Hid.reg ?_; (conv => whnf)
      have h5n := hb.none hb5
      have hb' := hb.add (cs := (eMsg m).cells) hb5
      refine SCall.w (writeByte_any w0 (σ := σ.setBox b5 (eMsg m).cells) (by rw [setBox_setBox]; exact hb') 32 (by omega)) rfl ?_; rintro r s' ⟨rfl, hb2⟩ hB
      have h5 := hb2.le.box b5 _ setBox_same
      refine ⟨[(b5, (eMsg m).cells)], (Know.nil s').add h5 (by simp), ?_⟩; (conv => whnf); refine Hid.seq ?_; refine Hid.seq ?_; refine Hid.reg ?_; (conv => whnf); refine SLoad.on 0 rfl ?_; (conv => whnf); refine SLoad.on 0 rfl ?_; (conv => whnf); refine SLoad.on 0 rfl ?_; (conv => whnf); refine SLoad.on 0 rfl ?_; (conv => whnf); refine Hid.block ?_; refine Hid.loop ?_
      refine SLoop.by Ty.mixed (fun j : Nat => 4 - j) (fun j => [(1, .vp (eRep ⟨0, n, l, d⟩)), (3, .ptr b3 0), (5, .ptr b5 0), (24, .slc 8 (l.map eMsg) .no), (25, .int .i64 (l.map eMsg).length), (26, .int .i64 i), (39, .agg [.int .i64 m.seq, .int .i64 m.tries, .int .i64 m.until_, .int .i64 m.prio]), (40, .int .i64 j)]) (fun _ => [(b5, (eMsg m).cells)]) (fun j s => j ≤ 4 ∧ Bld (σ.setBox b5 (eMsg m).cells) s b3 (Q ++ [32] ++ comT ([m.seq, m.tries, m.until_, m.prio].take j))) 0 ⟨by repeat (first | exact trivial | refine ⟨by first | trivial | exact Weak.refl _ | exact Weak.tok _ _ _ | exact Weak.of_eq (congrArg (AV.int _) (by omega)) | exact Weak.of_eq (congrArg AV.bool (by fail)) | exact Weak.nils _ _ (.inr rfl), ?_⟩), .refl _, Nat.zero_le _, by simpa [comT] using hb2⟩ ?_
      clear hb hb' hb2 h5 hB; rintro j s ⟨hj, hb⟩
      by_cases hj4 : j < 4
      · obtain ⟨x, hx, hx64, hct⟩ : ∃ x, [AV.int .i64 m.seq, .int .i64 m.tries, .int .i64 m.until_, .int .i64 m.prio][((j : Int)).toNat * 1]? = some (.int .i64 x) ∧ In64 x ∧ comT ([m.seq, m.tries, m.until_, m.prio].take (j + 1)) = comT ([m.seq, m.tries, m.until_, m.prio].take j) ++ (Lib.itoa x ++ [44]) := by
          have hj' : j = 0 ∨ j = 1 ∨ j = 2 ∨ j = 3 := by omega
          rcases hj' with rfl | rfl | rfl | rfl
          · exact ⟨_, rfl, hm.seq, by simp [comT]⟩
          · exact ⟨_, rfl, hm.tries, by simp [comT]⟩
          · exact ⟨_, rfl, hm.unt, by simp [comT]⟩
          · exact ⟨_, rfl, hm.prio, by simp [comT]⟩
        have hcl : (comT ([m.seq, m.tries, m.until_, m.prio].take j)).length ≤ 88 := by
          have h1 := comT_len (l := [m.seq, m.tries, m.until_, m.prio].take j) fun x hx => hm.four x (List.mem_of_mem_take hx)
          rw [List.length_take] at h1
          simp only [List.length_cons, List.length_nil] at h1
          omega
        have hxl := itoa_len20 hx64
        refine Xc_h ?_; (conv => whnf); refine Hid.seq ?_; refine Hid.reg ?_; (conv => whnf); refine Hid.seq ?_; refine Hid.cond rfl ?_
        skip
        refine SIf.y Ty.mixed (decide_eq_true (by omega)) ?_; refine Xc_h ?_; (conv => whnf); refine Hid.skip ?_; (conv => whnf); refine Hid.seq ?_; refine Hid.seq ?_; refine Hid.reg ?_; (conv => whnf); refine And.intro (by omega) ?_; (conv => whnf); refine ⟨_, hx, ?_⟩; (conv => whnf); refine Hid.reg ?_; (conv => whnf); refine SCall.p (by exact itoa_any w0 hL x hx64.1 hx64.2) ?_; (conv => whnf)
        refine And.intro (by simp only [List.length_cons, List.length_nil, List.length_append]; omega) ?_; (conv => whnf); refine SCall.w (writeString_any w0 hb (Lib.itoa x ++ [44]) (by simp) (by simp only [List.length_append, List.length_cons, List.length_nil]; omega)) rfl ?_; rintro r s2 ⟨rfl, hb2⟩ hB; refine ⟨[(b5, (eMsg m).cells)], (Know.nil s2).add (hb2.le.box b5 _ setBox_same) (by simp), ?_⟩
        (conv => whnf); refine Hid.reg ?_; (conv => whnf); refine ⟨_, IntWalk.i64_in _ (by omega), ?_⟩; (conv => whnf)
        exact ⟨j + 1, by omega, by repeat (first | exact trivial | refine ⟨by first | trivial | exact Weak.refl _ | exact Weak.tok _ _ _ | exact Weak.of_eq (congrArg (AV.int _) (by omega)) | exact Weak.of_eq (congrArg AV.bool (by fail)) | exact Weak.nils _ _ (.inr rfl), ?_⟩), .refl _, hj4, by rw [hct, ← List.append_assoc]; exact hb2⟩
      · have hje : j = 4 := by omega
        subst hje
        have hq1 := quoteT_len m.body
        have hq2 := quoteT_len m.attr
        have hq3 := quoteT_len m.why
        have hm1 := hm.body
        have hm2 := hm.attr
        have hm3 := hm.why
        have hcl := comT_len hm.four
        simp only [List.length_cons, List.length_nil] at hcl
        rw [show [m.seq, m.tries, m.until_, m.prio].take 4 = [m.seq, m.tries, m.until_, m.prio] from rfl] at hb
        refine Xc_h ?_; (conv => whnf); refine Hid.seq ?_; refine Hid.reg ?_; (conv => whnf); refine Hid.seq ?_; refine Hid.cond rfl ?_; refine SIf.n Ty.mixed (by exact rfl) ?_; refine Xc_h ?_; (conv => whnf); refine Hid.exit ?_; (conv => whnf); refine Hid.regD ?_; refine SReg.d [0, 4, 9, 1, 2, 3, 5, 6, 7, 8, 10, 11, 12, 13] [0, 1, 0, 0, 0, 1, 0, 0, 0, 0, 1, 0, 0, 2] (by decide +kernel) ?_; (conv => whnf); (conv => whnf)
        refine SLoad.on 0 rfl ?_; (conv => whnf); refine SCall.p (by exact quote_any w0 m.body (by omega)) ?_; (conv => whnf); refine And.intro (by simp only [List.length_cons, List.length_nil, List.length_append]; omega) ?_; (conv => whnf); refine SLoad.on 0 rfl ?_; (conv => whnf); refine SCall.p (by exact quote_any w0 m.attr (by omega)) ?_; (conv => whnf)
        refine And.intro (by simp only [List.length_cons, List.length_nil, List.length_append]; omega) ?_; (conv => whnf); refine And.intro (by simp only [List.length_cons, List.length_nil, List.length_append]; omega) ?_; (conv => whnf); refine SLoad.on 0 rfl ?_; (conv => whnf); refine SCall.p (by exact quote_any w0 m.why (by omega)) ?_; (conv => whnf)
        refine And.intro (by simp only [List.length_cons, List.length_nil, List.length_append]; omega) ?_; (conv => whnf); refine SCall.w (writeString_any w0 hb (quoteT m.body ++ [44] ++ quoteT m.attr ++ [44] ++ quoteT m.why) (by simp) (by simp only [List.length_append, List.length_cons, List.length_nil]; omega)) rfl ?_; rintro r s2 ⟨rfl, hb2⟩ hB; refine ⟨_, Know.nil s2, ?_⟩; (conv => whnf)
        refine Hid.reg ?_; (conv => whnf); refine ⟨_, IntWalk.i64_in _ (by omega), ?_⟩; (conv => whnf)
        refine ⟨i + 1, by omega, by repeat (first | exact trivial | refine ⟨by first | trivial | exact Weak.refl _ | exact Weak.tok _ _ _ | exact Weak.of_eq (congrArg (AV.int _) (by omega)) | exact Weak.of_eq (congrArg AV.bool (by fail)) | exact Weak.nils _ _ (.inr rfl), ?_⟩), .none _, hlt, ?_⟩
        have hb3' := hb2.less (le_setBox (cs := (eMsg m).cells) (.refl σ) h5n)
        have e : Q ++ [32] ++ comT [m.seq, m.tries, m.until_, m.prio] ++ (quoteT m.body ++ [44] ++ quoteT m.attr ++ [44] ++ quoteT m.why) = P ++ (l.take (i + 1)).flatMap showM := by
          rw [htk, hQ]; simp [List.append_assoc]
        rw [← e]
        exact hb3'
    · have hge : i = l.length := by omega
      subst hge
      rw [List.take_length] at hb hsl
      obtain ⟨R, hR⟩ : ∃ R, R = P ++ l.flatMap showM := ⟨_, rfl⟩
      have hRl : R.length ≤ 10000000000000 := by rw [hR, List.length_append]; omega
      rw [← hR] at hb ⊢
      refine Xc_h ?_; (conv => whnf); refine Hid.seq ?_; refine Hid.reg ?_; (conv => whnf); refine Hid.seq ?_; refine Hid.cond rfl ?_
      skip
      refine SIf.n Ty.mixed (decide_eq_false (by rw [hml]; omega)) ?_; refine Xc_h ?_; (conv => whnf); refine Hid.exit ?_; (conv => whnf); refine Hid.seq ?_; refine Hid.seq ?_; refine Hid.reg ?_; (conv => whnf); refine Hid.block ?_; refine Hid.loop ?_
      skip
      have hdl : (aBytes d).length = d.length := bytes_len d
      refine SLoop.by Ty.mixed (fun i : Nat => d.length - i) (fun i => [(3, .ptr b3 0), (64, .slc 1 (aBytes d) .no), (65, .int .i64 (aBytes d).length), (66, .int .i64 i)]) (fun _ => []) (fun i s => i ≤ d.length ∧ Bld σ s b3 (R ++ showD (d.take i))) 0 ⟨by repeat (first | exact trivial | refine ⟨by first | trivial | exact Weak.refl _ | exact Weak.tok _ _ _ | exact Weak.of_eq (congrArg (AV.int _) (by omega)) | exact Weak.of_eq (congrArg AV.bool (by fail)) | exact Weak.nils _ _ (.inr rfl), ?_⟩), .none _, Nat.zero_le _, by simpa [showD] using hb⟩ ?_
      clear hb; rintro i s ⟨hi, hb⟩
      by_cases hlt : i < d.length
      · have gc : (aBytes d)[i]? = some (.int .u8 d[i].toNat) := by simp [aBytes, aByte, hlt]
        have hx2 := hexs_len (d.take i)
        have htl2 : (d.take i).length = i := by rw [List.length_take]; omega
        have hdx : (d.take (i + 1)).flatMap hexT = (d.take i).flatMap hexT ++ hexT d[i] := by
          rw [List.take_succ_eq_append_getElem hlt, List.flatMap_append]; simp
        have hne1 : d.take (i + 1) ≠ [] := fun e => by
          have h1 : (d.take (i + 1)).length = i + 1 := by rw [List.length_take]; omega
          rw [e] at h1
          simp at h1
        have hs1 : showD (d.take (i + 1)) = [32, 35] ++ (d.take (i + 1)).flatMap hexT := by rw [showD, if_neg hne1]
        rw [hdx] at hs1
        generalize d[i] = c at *
        by_cases hi0 : i = 0
        · subst hi0
          rw [List.take_zero] at hb hs1
          rw [showD, if_pos rfl, List.append_nil] at hb
          refine Xc_h ?_; (conv => whnf); refine Hid.seq ?_; refine Hid.reg ?_; (conv => whnf); refine Hid.seq ?_; refine Hid.cond rfl ?_
          skip
          refine SIf.y Ty.mixed (decide_eq_true (by rw [hdl]; omega)) ?_; refine Xc_h ?_; (conv => whnf); refine Hid.skip ?_; (conv => whnf); refine Hid.seq ?_; refine Hid.seq ?_; refine Hid.reg ?_; (conv => whnf)
          refine ⟨_, ⟨by first | omega | (simp only [List.length_cons, List.length_nil, List.length_append]; omega) | fail, by exact gc⟩, ?_⟩
          (conv => whnf); refine Hid.seq ?_; refine Hid.seq ?_; refine Hid.reg ?_; (conv => whnf); refine Hid.cond rfl ?_; refine SIf.y Ty.mixed (by exact rfl) ?_; refine Xc_h ?_; (conv => whnf); refine Hid.reg ?_; (conv => whnf); refine SCall.w (writeString_any w0 hb [32, 35] (by simp) (by simp; omega)) rfl ?_; rintro r s2 ⟨rfl, hb2⟩ hB; refine ⟨_, Know.nil s2, ?_⟩; (conv => whnf)
          refine Hid.reg ?_; (conv => whnf); refine SCall.p (by exact hex_any w0 c) ?_; (conv => whnf); refine SCall.w (writeString_any w0 hb2 (hexT c) (by simp [hexT]) (by simp [hexT]; omega)) rfl ?_; rintro r s3 ⟨rfl, hb3⟩ hB; refine ⟨_, Know.nil s3, ?_⟩; (conv => whnf); refine Hid.reg ?_; (conv => whnf); refine ⟨_, IntWalk.i64_in _ (by omega), ?_⟩; (conv => whnf)
          exact ⟨0 + 1, by omega, by repeat (first | exact trivial | refine ⟨by first | trivial | exact Weak.refl _ | exact Weak.tok _ _ _ | exact Weak.of_eq (congrArg (AV.int _) (by omega)) | exact Weak.of_eq (congrArg AV.bool (by fail)) | exact Weak.nils _ _ (.inr rfl), ?_⟩), .none _, hlt, by rw [hs1]; simpa using hb3⟩
        · have hne0 : d.take i ≠ [] := fun e => by
            have := congrArg List.length e
            rw [htl2] at this
            simp at this
            omega
          rw [showD, if_neg hne0] at hb
          have d0 : decide ((i : Int) = 0) = false := decide_eq_false (by omega)
          refine Xc_h ?_; (conv => whnf); refine Hid.seq ?_; refine Hid.reg ?_; (conv => whnf); refine Hid.seq ?_; refine Hid.cond rfl ?_
          skip
          refine SIf.y Ty.mixed (decide_eq_true (by rw [hdl]; omega)) ?_; refine Xc_h ?_; (conv => whnf); refine Hid.skip ?_; (conv => whnf); refine Hid.seq ?_; refine Hid.seq ?_; refine Hid.reg ?_; (conv => whnf)
          refine ⟨_, ⟨by first | omega | (simp only [List.length_cons, List.length_nil, List.length_append]; omega) | fail, by exact gc⟩, ?_⟩
          (conv => whnf); refine Hid.seq ?_; refine Hid.seq ?_; refine Hid.reg ?_; (conv => whnf); refine Hid.cond rfl ?_; refine SIf.n Ty.mixed (by assumption) ?_; refine Xc_h ?_; (conv => whnf); refine Hid.skip ?_; (conv => whnf); refine Hid.reg ?_; (conv => whnf); refine SCall.p (by exact hex_any w0 c) ?_; (conv => whnf)
          refine SCall.w (writeString_any w0 hb (hexT c) (by simp [hexT]) (by simp only [List.length_append, List.length_cons, List.length_nil, hexT]; omega)) rfl ?_; rintro r s3 ⟨rfl, hb3⟩ hB; refine ⟨_, Know.nil s3, ?_⟩; (conv => whnf); refine Hid.reg ?_; (conv => whnf); refine ⟨_, IntWalk.i64_in _ (by omega), ?_⟩; (conv => whnf)
          exact ⟨i + 1, by omega, by repeat (first | exact trivial | refine ⟨by first | trivial | exact Weak.refl _ | exact Weak.tok _ _ _ | exact Weak.of_eq (congrArg (AV.int _) (by omega)) | exact Weak.of_eq (congrArg AV.bool (by fail)) | exact Weak.nils _ _ (.inr rfl), ?_⟩), .none _, hlt, by rw [hs1]; simpa using hb3⟩
      · have hge : i = d.length := by omega
        subst hge
        rw [List.take_length] at hb
        have hsd : (showD d).length ≤ 2097154 := by
          have := hexs_len d
          rw [showD]
          split
          · simp
          · rw [List.length_append, this]; simp; omega
        refine Xc_h ?_; (conv => whnf); refine Hid.seq ?_; refine Hid.reg ?_; (conv => whnf); refine Hid.seq ?_; refine Hid.cond rfl ?_
        skip
        refine SIf.n Ty.mixed (decide_eq_false (by rw [hdl]; omega)) ?_; refine Xc_h ?_; (conv => whnf); refine Hid.exit ?_; (conv => whnf); refine Hid.seq ?_; refine Hid.reg ?_; (conv => whnf)
        skip
        refine SCall.w (string_any w0 hb (by rw [List.length_append]; omega)) rfl ?_; rintro r s2 ⟨rfl, hle⟩ hB; refine ⟨_, Know.nil s2, ?_⟩; (conv => whnf); refine Hid.ret ?_; (conv => whnf)
        skip
        exact .p hle rfl
  · rw [showT, if_pos he]
    (conv => whnf); refine Hid.seq ?_; refine Hid.reg ?_; (conv => whnf); refine SBox.f ?_; (conv => whnf); refine Hid.seq ?_; refine Hid.seq ?_; refine Hid.reg ?_; (conv => whnf); refine Hid.cond rfl ?_; refine SIf.y Ty.mixed (by simp [he]) ?_; refine Xc_h ?_; (conv => whnf); refine Hid.seq ?_; refine Hid.reg ?_; (conv => whnf); refine ⟨_, hwr, ?_⟩; (conv => whnf); refine SCall.p (by exact hi1) ?_
    (conv => whnf); refine And.intro (by simp only [List.length_cons, List.length_nil, List.length_append]; omega) ?_; (conv => whnf); refine Hid.ret ?_; (conv => whnf); exact .p (.refl _) rfl
end Go.Proofs.YtjcikceophcooaaDoor
end
section
set_option linter.unusedVariables false
set_option linter.unusedSimpArgs false
set_option maxRecDepth 100000
set_option maxHeartbeats 4000000
namespace Go.Proofs.YtjcikceophcooaaDoor
open Go.Al Go.RowKit
theorem itoa_one {n : Nat} (h : n < 10) : Lib.itoa (n : Int) = [UInt8.ofNat (48 + n)] := by rw [Lib.itoa_nonneg, Lib.decDigits_one h]
theorem num_one {n : Nat} (h : n < 10) : goAtoi [UInt8.ofNat (48 + n)] = ((n : Int), true) ∧ numOk [UInt8.ofNat (48 + n)] = true := by
  have := num_itoa (n := (n : Int)) ⟨by omega, by omega⟩
  rwa [itoa_one h] at this
theorem parse_fetch : parseT [102, 101, 116, 99, 104, 32, 49, 32, 53] = (⟨4, 1, 5, 0, [], [], [], [], [], []⟩, 0) := by
  have h1 := num_one (n := 1) (by decide)
  have h5 := num_one (n := 5) (by decide)
  have e : pcs 32 [102, 101, 116, 99, 104, 32, 49, 32, 53] = [[102, 101, 116, 99, 104], [49], [53]] := by decide
  rw [parseT, e]
  show parseAt formsL 0 _ _ = _
  have e2 : parseAt formsL 0 [102, 101, 116, 99, 104] [[49], [53]] = fillR (opK 4) [6, 7] [[49], [53]] := rfl
  rw [e2, fillR, fillR, fillR]
  have g1 : goAtoi [49] = (1, true) := h1.1
  have g2 : numOk [49] = true := h1.2
  have g3 : goAtoi [53] = (5, true) := h5.1
  have g4 : numOk [53] = true := h5.2
  simp only [setF, g1, g2, g3, g4, if_true]
  rfl
theorem show_zero : showT ⟨0, 0, [], []⟩ = [111, 107, 32, 48] := by
  have : Lib.itoa 0 = [48] := itoa_one (n := 0) (by decide)
  simp [showT, this, showD]
theorem known22_any (w0 : Base) (hL : Laid w0) : CallP Tryd.prog w0 8 [] (.bool true) := by
  have hu : CallP Tryd.prog w0 19 [.str [97, 37, 50, 48, 98]] (.tup [.str [97, 32, 98], .bool true]) := unquote_any w0 [97, 37, 50, 48, 98] (by decide)
  have hp := parse_any w0 hL [102, 101, 116, 99, 104, 32, 49, 32, 53] (by decide)
  rw [parse_fetch] at hp
  have hq : CallP Tryd.prog w0 10 [.str [97, 32, 98]] (.str [97, 37, 50, 48, 98]) := quote_any w0 [97, 32, 98] (by decide)
  have hs : CallP Tryd.prog w0 12 [.agg [.int .u16 0, .int .i64 0, .nils, .nils]] (.str [111, 107, 32, 48]) := fun σ => by
    have := show_any w0 hL ⟨0, 0, [], []⟩ ⟨⟨by decide, by decide⟩, ⟨by decide, by decide⟩, by decide, (fun m hm => by cases hm), by decide⟩ σ
    rw [show_zero] at this
    exact this.weaken (.cons (.agg (.cons (.refl _) (.cons (.refl _) (.cons (.nils 8 .no (.inl rfl)) (.cons (.nils 1 .no (.inl rfl)) .nil)))) (by simp [AV.one])) .nil)
  refine CallP.h Ty.tok Ty.mixed Tryd.func8 rfl Tryd.ntmps8 rfl (by simp) (by decide +kernel) fun σ => ?_
  (conv => whnf); refine Hid.seq ?_; refine Hid.reg ?_; (conv => whnf); refine Hid.seq ?_; refine Hid.reg ?_; (conv => whnf); refine SCall.p (by exact hu) ?_; (conv => whnf); refine Hid.seq ?_; refine Hid.reg ?_; (conv => whnf); refine SCall.p (by exact hp) ?_; (conv => whnf); intro b3 hb3; (conv => whnf); refine SStore.on 0 rfl ?_; (conv => whnf); refine Hid.seq ?_; refine Hid.reg ?_
  (conv => whnf); refine SCall.p (by exact hq) ?_; (conv => whnf); refine SCond.y (by exact rfl) ?_; (conv => whnf); refine SPick.y (by exact rfl) ?_; (conv => whnf); refine SCond.y (by exact rfl) ?_; (conv => whnf); refine SCond.y (by exact rfl) ?_; (conv => whnf); refine SPick.y (by exact rfl) ?_; (conv => whnf); refine SCond.y (by exact rfl) ?_; (conv => whnf); refine SCond.y (by exact rfl) ?_
  (conv => whnf); refine SCall.p (by exact hs) ?_; (conv => whnf); refine SCond.y (by exact rfl) ?_; (conv => whnf); refine SPick.y (by exact rfl) ?_; (conv => whnf); refine SCond.y (by exact rfl) ?_; (conv => whnf); refine SCond.y (by exact rfl) ?_; (conv => whnf); refine SPick.y (by exact rfl) ?_; (conv => whnf); refine SCond.y (by exact rfl) ?_; (conv => whnf); refine SCond.y (by exact rfl) ?_
  (conv => whnf); refine SLoad.on 0 rfl ?_; (conv => whnf); refine SCond.y (by exact rfl) ?_; (conv => whnf); refine SPick.y (by exact rfl) ?_; (conv => whnf); refine SCond.y (by exact rfl) ?_; (conv => whnf); refine SCond.y (by exact rfl) ?_; (conv => whnf); refine SLoad.on 0 rfl ?_; (conv => whnf); refine SCond.y (by exact rfl) ?_; (conv => whnf); refine SPick.y (by exact rfl) ?_; (conv => whnf)
  refine SCond.y (by exact rfl) ?_; (conv => whnf); refine SCond.y (by exact rfl) ?_; (conv => whnf); refine SLoad.on 0 rfl ?_; (conv => whnf); refine SCond.y (by exact rfl) ?_; (conv => whnf); refine SPick.y (by exact rfl) ?_; (conv => whnf); refine Hid.ret ?_; (conv => whnf); exact .p (le_new2 (.refl _) hb3) rfl
end Go.Proofs.YtjcikceophcooaaDoor
end
section
set_option linter.unusedVariables false
set_option linter.unusedSimpArgs false
set_option maxRecDepth 100000
namespace Go.Proofs.YtjcikceophcooaaDoor
open Go.Al Go.RowKit
def wd (f : Nat) : List UInt8 := if f ≤ 5 then [37] else [48]
end Go.Proofs.YtjcikceophcooaaDoor
end
section
set_option linter.unusedVariables false
set_option linter.unusedSimpArgs false
set_option maxRecDepth 100000
namespace Go.Proofs.YtjcikceophcooaaDoor
open Go.Al Go.RowKit
section
variable {H : Type} {enc : TypeId × Value → H} {W : World}
def I64 (n : Int) : Prop := -9223372036854775808 ≤ n ∧ n ≤ 9223372036854775807
theorem int_in (n : Int) (h : (Lit.int .i64 n).wf = true) : I64 n := by simpa [I64, Lit.wf, IntKind.min, IntKind.max, IntKind.signed, IntKind.bits] using h
theorem Opens.mapQ {P : Program} {t : TypeId} {k : Nat} {α β : Type} {mk : α → List AV} {mk' : β → List AV} {Q : α → Prop} {Q' : β → Prop} (h : Opens enc P W t k mk Q) (g : α → β) (h1 : ∀ y, Q y → mk' (g y) = mk y) (h2 : ∀ y, Q y → Q' (g y)) (hl : ∀ z, (mk' z).length = k ∧ ∀ c ∈ mk' z, c.one = true) : Opens enc P W t k mk' Q' :=
  ⟨h.size, hl, fun fuel cs x hx hw => by
    obtain ⟨y, q, r⟩ := h.go fuel cs x hx hw
    exact ⟨g y, h2 y q, by rw [h1 y q]; exact r⟩⟩
theorem opens_u8 : Opens enc Tryd.prog W 5 1 (fun b : UInt8 => [AV.int .u8 b.toNat]) (fun _ => True) :=
  Opens.mapQ (Opens.int (Q := fun n => 0 ≤ n ∧ n ≤ 255) Tryd.underlying5 (by kernel_rfl) fun n h => by simpa [Lit.wf, IntKind.min, IntKind.max, IntKind.signed, IntKind.bits] using h)
    (fun n => UInt8.ofNat n.toNat) (fun n h => by
      have : ((UInt8.ofNat n.toNat).toNat : Int) = n := by simp; omega
      rw [this]) (fun _ _ => trivial) (fun z => ⟨rfl, fun c hc => by simp at hc; subst hc; rfl⟩)
structure OpIn (o : OpV) : Prop where
  kind : I64 o.kind
  sub : I64 o.sub
  n : I64 o.n
  seq : I64 o.seq
  name : o.name.length ≤ 1000000000000000
  topic : o.topic.length ≤ 1000000000000000
  want : o.want.length ≤ 1000000000000000
  body : o.body.length ≤ 1000000000000000
  attr : o.attr.length ≤ 1000000000000000
  data : o.data.length ≤ 1000000000000000
theorem eOp_lay (o : OpV) : (eOp o).cells.length = 10 ∧ ∀ c ∈ (eOp o).cells, c.one = true := ⟨rfl, fun c hc => by
  simp only [eOp, oC, AV.cells, List.mem_cons, List.not_mem_nil, or_false] at hc
  rcases hc with rfl | rfl | rfl | rfl | rfl | rfl | rfl | rfl | rfl | rfl <;> rfl⟩
theorem opens_op : Opens enc Tryd.prog W 37 10 (fun o : OpV => (eOp o).cells) OpIn :=
  (Opens.struct (.cons rfl (Opens.int (Q := I64) Tryd.underlying3 (by kernel_rfl) int_in) (.cons rfl (Opens.int (Q := I64) Tryd.underlying3 (by kernel_rfl) int_in) (.cons rfl (Opens.int (Q := I64) Tryd.underlying3 (by kernel_rfl) int_in) (.cons rfl (Opens.int (Q := I64) Tryd.underlying3 (by kernel_rfl) int_in)
    (.cons rfl (Opens.str Tryd.underlying9 (by kernel_rfl)) (.cons rfl (Opens.str Tryd.underlying9 (by kernel_rfl)) (.cons rfl (Opens.str Tryd.underlying9 (by kernel_rfl)) (.cons rfl (Opens.str Tryd.underlying9 (by kernel_rfl)) (.cons rfl (Opens.str Tryd.underlying9 (by kernel_rfl))
    (.cons rfl (Opens.slice 1 opens_u8 (fun b : UInt8 => AV.int .u8 b.toNat) (fun _ => rfl) (by decide) Tryd.underlying26 (by kernel_rfl) (by kernel_rfl)) .nil)))))))))) Tryd.underlying37 (by kernel_rfl)).map
    (fun (a, b, c, d, e, f, g, h, i, j, _) => (⟨a, b, c, d, e, f, g, h, i, j⟩ : OpV)) (fun _ => rfl) (fun y h => ⟨h.1, h.2.1, h.2.2.1, h.2.2.2.1, h.2.2.2.2.1, h.2.2.2.2.2.1, h.2.2.2.2.2.2.1, h.2.2.2.2.2.2.2.1, h.2.2.2.2.2.2.2.2.1, Nat.le_trans (Nat.le_of_eq (Nat.mul_one _).symm) (Nat.le_trans h.2.2.2.2.2.2.2.2.2.1.1 (by decide))⟩) eOp_lay
end
end Go.Proofs.YtjcikceophcooaaDoor
end
section
set_option linter.unusedVariables false
set_option linter.unusedSimpArgs false
set_option maxRecDepth 100000
set_option maxHeartbeats 4000000
namespace Go.Proofs.YtjcikceophcooaaDoor
open Go.Al Go.RowKit
theorem sameOp_any (w0 : Base) (a b : OpV) : CallP Tryd.prog w0 22 [eOp a, eOp b] (.bool (decide (a = b))) := by
  refine CallP.h Ty.tok Ty.mixed Tryd.func22 rfl Tryd.ntmps22 rfl (by simp) (by decide +kernel) fun σ => ?_
  by_cases h0 : a.kind = b.kind
  case neg =>
    have d0 : decide (a.kind = b.kind) = false := decide_eq_false h0
    have hn : decide (a = b) = false := decide_eq_false fun e => h0 (congrArg OpV.kind e)
    rw [hn]
    (try refine Xc_h ?_); (try (conv => whnf)); repeat (first | refine Hid.seq ?_ | (refine Hid.reg ?_; (conv => whnf)) | refine Hid.regD ?_ | refine Hid.cond rfl ?_ | refine Hid.block ?_ | refine Hid.loop ?_ | (refine Hid.exit ?_; (conv => whnf)) | (refine Hid.ret ?_; (conv => whnf)) | (refine Hid.skip ?_; (conv => whnf)) | (refine Hid.label ?_; (conv => whnf)) | refine Hid.range ?_)
    repeat' (((first | refine SIf.y Ty.mixed (by first | exact rfl | assumption | fail) ?_ | refine SIf.n Ty.mixed (by first | exact rfl | assumption | fail) ?_ | refine SCond.y (by first | exact rfl | assumption | fail) ?_ | refine SCond.n (by first | exact rfl | assumption | fail) ?_ | refine SPick.y (by first | exact rfl | assumption | fail) ?_ | refine SPick.n (by first | exact rfl | assumption | fail) ?_ | refine SPick.b ?_ | refine SPick.i ?_ | fail | refine SLoad.on 0 rfl ?_ | refine SLoad.on 1 rfl ?_ | refine SLoad.on 2 rfl ?_ | refine SLoad.on 3 rfl ?_ | refine SLoad.on 4 rfl ?_ | refine SLoad.on 5 rfl ?_ | refine SStore.on 0 rfl ?_ | refine SStore.on 1 rfl ?_ | refine SStore.on 2 rfl ?_ | refine SStore.on 3 rfl ?_ | refine SStore.on 4 rfl ?_ | refine SStore.on 5 rfl ?_ | refine SBox.f ?_ | refine SCall.p (by fail) ?_ | fail | refine SApp.c rfl rfl (by first | assumption | exact Moves.more (by assumption) (by assumption) | fail) (by first | (simp only [length_aBytes, List.length_append, List.length_cons, List.length_nil, List.length_map, List.length_range]; omega) | omega | fail) fun tk1 σ1 hm => ?_ | refine SReg.t 0 [] (by decide +kernel) ?_ | refine And.intro (by first | omega | (simp only [List.length_cons, List.length_append, List.length_nil, List.length_map, length_aBytes, List.length_replicate, List.length_range]; omega) | fail) ?_ | refine ⟨_, ⟨by first | omega | (simp only [List.length_cons, List.length_append, List.length_nil, List.length_map, length_aBytes, List.length_replicate, List.length_range]; omega) | fail, by first | assumption | exact get_map (by assumption) | exact get_bytes (by assumption) | fail⟩, ?_⟩ | refine ⟨_, toBytes_aBytes _, ?_⟩ | refine ⟨_, by repeat (first | exact toB_nil | apply toB_cons | apply toB_consC _ (by first | omega | (simp only [List.length_cons, List.length_append, List.length_nil, List.length_map, length_aBytes, List.length_replicate, List.length_range]; omega) | fail)), ?_⟩ | refine ⟨_, IntWalk.i64_in _ (by first | omega | (simp only [List.length_cons, List.length_append, List.length_nil, List.length_map, length_aBytes, List.length_replicate, List.length_range]; omega) | fail), ?_⟩ | refine ⟨_, wrap_u8 _, ?_⟩ | refine ⟨_, rfl, ?_⟩ | refine ⟨true, fun b1 hb1 => ?_⟩ | intro b1 hb1 | fail); (try refine Xc_h ?_); (try (conv => whnf)); repeat (first | refine Hid.seq ?_ | (refine Hid.reg ?_; (conv => whnf)) | refine Hid.regD ?_ | refine Hid.cond rfl ?_ | refine Hid.block ?_ | refine Hid.loop ?_ | (refine Hid.exit ?_; (conv => whnf)) | (refine Hid.ret ?_; (conv => whnf)) | (refine Hid.skip ?_; (conv => whnf)) | (refine Hid.label ?_; (conv => whnf)) | refine Hid.range ?_)))
    exact .p (.refl _) rfl
  have d0 : decide (a.kind = b.kind) = true := decide_eq_true h0
  by_cases h1 : a.sub = b.sub
  case neg =>
    have d1 : decide (a.sub = b.sub) = false := decide_eq_false h1
    have hn : decide (a = b) = false := decide_eq_false fun e => h1 (congrArg OpV.sub e)
    rw [hn]
    (try refine Xc_h ?_); (try (conv => whnf)); repeat (first | refine Hid.seq ?_ | (refine Hid.reg ?_; (conv => whnf)) | refine Hid.regD ?_ | refine Hid.cond rfl ?_ | refine Hid.block ?_ | refine Hid.loop ?_ | (refine Hid.exit ?_; (conv => whnf)) | (refine Hid.ret ?_; (conv => whnf)) | (refine Hid.skip ?_; (conv => whnf)) | (refine Hid.label ?_; (conv => whnf)) | refine Hid.range ?_)
    repeat' (((first | refine SIf.y Ty.mixed (by first | exact rfl | assumption | fail) ?_ | refine SIf.n Ty.mixed (by first | exact rfl | assumption | fail) ?_ | refine SCond.y (by first | exact rfl | assumption | fail) ?_ | refine SCond.n (by first | exact rfl | assumption | fail) ?_ | refine SPick.y (by first | exact rfl | assumption | fail) ?_ | refine SPick.n (by first | exact rfl | assumption | fail) ?_ | refine SPick.b ?_ | refine SPick.i ?_ | fail | refine SLoad.on 0 rfl ?_ | refine SLoad.on 1 rfl ?_ | refine SLoad.on 2 rfl ?_ | refine SLoad.on 3 rfl ?_ | refine SLoad.on 4 rfl ?_ | refine SLoad.on 5 rfl ?_ | refine SStore.on 0 rfl ?_ | refine SStore.on 1 rfl ?_ | refine SStore.on 2 rfl ?_ | refine SStore.on 3 rfl ?_ | refine SStore.on 4 rfl ?_ | refine SStore.on 5 rfl ?_ | refine SBox.f ?_ | refine SCall.p (by fail) ?_ | fail | refine SApp.c rfl rfl (by first | assumption | exact Moves.more (by assumption) (by assumption) | fail) (by first | (simp only [length_aBytes, List.length_append, List.length_cons, List.length_nil, List.length_map, List.length_range]; omega) | omega | fail) fun tk1 σ1 hm => ?_ | refine SReg.t 0 [] (by decide +kernel) ?_ | refine And.intro (by first | omega | (simp only [List.length_cons, List.length_append, List.length_nil, List.length_map, length_aBytes, List.length_replicate, List.length_range]; omega) | fail) ?_ | refine ⟨_, ⟨by first | omega | (simp only [List.length_cons, List.length_append, List.length_nil, List.length_map, length_aBytes, List.length_replicate, List.length_range]; omega) | fail, by first | assumption | exact get_map (by assumption) | exact get_bytes (by assumption) | fail⟩, ?_⟩ | refine ⟨_, toBytes_aBytes _, ?_⟩ | refine ⟨_, by repeat (first | exact toB_nil | apply toB_cons | apply toB_consC _ (by first | omega | (simp only [List.length_cons, List.length_append, List.length_nil, List.length_map, length_aBytes, List.length_replicate, List.length_range]; omega) | fail)), ?_⟩ | refine ⟨_, IntWalk.i64_in _ (by first | omega | (simp only [List.length_cons, List.length_append, List.length_nil, List.length_map, length_aBytes, List.length_replicate, List.length_range]; omega) | fail), ?_⟩ | refine ⟨_, wrap_u8 _, ?_⟩ | refine ⟨_, rfl, ?_⟩ | refine ⟨true, fun b1 hb1 => ?_⟩ | intro b1 hb1 | fail); (try refine Xc_h ?_); (try (conv => whnf)); repeat (first | refine Hid.seq ?_ | (refine Hid.reg ?_; (conv => whnf)) | refine Hid.regD ?_ | refine Hid.cond rfl ?_ | refine Hid.block ?_ | refine Hid.loop ?_ | (refine Hid.exit ?_; (conv => whnf)) | (refine Hid.ret ?_; (conv => whnf)) | (refine Hid.skip ?_; (conv => whnf)) | (refine Hid.label ?_; (conv => whnf)) | refine Hid.range ?_)))
    exact .p (.refl _) rfl
  have d1 : decide (a.sub = b.sub) = true := decide_eq_true h1
  by_cases h2 : a.n = b.n
  case neg =>
    have d2 : decide (a.n = b.n) = false := decide_eq_false h2
    have hn : decide (a = b) = false := decide_eq_false fun e => h2 (congrArg OpV.n e)
    rw [hn]
    (try refine Xc_h ?_); (try (conv => whnf)); repeat (first | refine Hid.seq ?_ | (refine Hid.reg ?_; (conv => whnf)) | refine Hid.regD ?_ | refine Hid.cond rfl ?_ | refine Hid.block ?_ | refine Hid.loop ?_ | (refine Hid.exit ?_; (conv => whnf)) | (refine Hid.ret ?_; (conv => whnf)) | (refine Hid.skip ?_; (conv => whnf)) | (refine Hid.label ?_; (conv => whnf)) | refine Hid.range ?_)
    repeat' (((first | refine SIf.y Ty.mixed (by first | exact rfl | assumption | fail) ?_ | refine SIf.n Ty.mixed (by first | exact rfl | assumption | fail) ?_ | refine SCond.y (by first | exact rfl | assumption | fail) ?_ | refine SCond.n (by first | exact rfl | assumption | fail) ?_ | refine SPick.y (by first | exact rfl | assumption | fail) ?_ | refine SPick.n (by first | exact rfl | assumption | fail) ?_ | refine SPick.b ?_ | refine SPick.i ?_ | fail | refine SLoad.on 0 rfl ?_ | refine SLoad.on 1 rfl ?_ | refine SLoad.on 2 rfl ?_ | refine SLoad.on 3 rfl ?_ | refine SLoad.on 4 rfl ?_ | refine SLoad.on 5 rfl ?_ | refine SStore.on 0 rfl ?_ | refine SStore.on 1 rfl ?_ | refine SStore.on 2 rfl ?_ | refine SStore.on 3 rfl ?_ | refine SStore.on 4 rfl ?_ | refine SStore.on 5 rfl ?_ | refine SBox.f ?_ | refine SCall.p (by fail) ?_ | fail | refine SApp.c rfl rfl (by first | assumption | exact Moves.more (by assumption) (by assumption) | fail) (by first | (simp only [length_aBytes, List.length_append, List.length_cons, List.length_nil, List.length_map, List.length_range]; omega) | omega | fail) fun tk1 σ1 hm => ?_ | refine SReg.t 0 [] (by decide +kernel) ?_ | refine And.intro (by first | omega | (simp only [List.length_cons, List.length_append, List.length_nil, List.length_map, length_aBytes, List.length_replicate, List.length_range]; omega) | fail) ?_ | refine ⟨_, ⟨by first | omega | (simp only [List.length_cons, List.length_append, List.length_nil, List.length_map, length_aBytes, List.length_replicate, List.length_range]; omega) | fail, by first | assumption | exact get_map (by assumption) | exact get_bytes (by assumption) | fail⟩, ?_⟩ | refine ⟨_, toBytes_aBytes _, ?_⟩ | refine ⟨_, by repeat (first | exact toB_nil | apply toB_cons | apply toB_consC _ (by first | omega | (simp only [List.length_cons, List.length_append, List.length_nil, List.length_map, length_aBytes, List.length_replicate, List.length_range]; omega) | fail)), ?_⟩ | refine ⟨_, IntWalk.i64_in _ (by first | omega | (simp only [List.length_cons, List.length_append, List.length_nil, List.length_map, length_aBytes, List.length_replicate, List.length_range]; omega) | fail), ?_⟩ | refine ⟨_, wrap_u8 _, ?_⟩ | refine ⟨_, rfl, ?_⟩ | refine ⟨true, fun b1 hb1 => ?_⟩ | intro b1 hb1 | fail); (try refine Xc_h ?_); (try (conv => whnf)); repeat (first | refine Hid.seq ?_ | (refine Hid.reg ?_; (conv => whnf)) | refine Hid.regD ?_ | refine Hid.cond rfl ?_ | refine Hid.block ?_ | refine Hid.loop ?_ | (refine Hid.exit ?_; (conv => whnf)) | (refine Hid.ret ?_; (conv => whnf)) | (refine Hid.skip ?_; (conv => whnf)) | (refine Hid.label ?_; (conv => whnf)) | refine Hid.range ?_)))
    exact .p (.refl _) rfl
  have d2 : decide (a.n = b.n) = true := decide_eq_true h2
  by_cases h3 : a.seq = b.seq
  case neg =>
    have d3 : decide (a.seq = b.seq) = false := decide_eq_false h3
    have hn : decide (a = b) = false := decide_eq_false fun e => h3 (congrArg OpV.seq e)
    rw [hn]
    (try refine Xc_h ?_); (try (conv => whnf)); repeat (first | refine Hid.seq ?_ | (refine Hid.reg ?_; (conv => whnf)) | refine Hid.regD ?_ | refine Hid.cond rfl ?_ | refine Hid.block ?_ | refine Hid.loop ?_ | (refine Hid.exit ?_; (conv => whnf)) | (refine Hid.ret ?_; (conv => whnf)) | (refine Hid.skip ?_; (conv => whnf)) | (refine Hid.label ?_; (conv => whnf)) | refine Hid.range ?_)
    repeat' (((first | refine SIf.y Ty.mixed (by first | exact rfl | assumption | fail) ?_ | refine SIf.n Ty.mixed (by first | exact rfl | assumption | fail) ?_ | refine SCond.y (by first | exact rfl | assumption | fail) ?_ | refine SCond.n (by first | exact rfl | assumption | fail) ?_ | refine SPick.y (by first | exact rfl | assumption | fail) ?_ | refine SPick.n (by first | exact rfl | assumption | fail) ?_ | refine SPick.b ?_ | refine SPick.i ?_ | fail | refine SLoad.on 0 rfl ?_ | refine SLoad.on 1 rfl ?_ | refine SLoad.on 2 rfl ?_ | refine SLoad.on 3 rfl ?_ | refine SLoad.on 4 rfl ?_ | refine SLoad.on 5 rfl ?_ | refine SStore.on 0 rfl ?_ | refine SStore.on 1 rfl ?_ | refine SStore.on 2 rfl ?_ | refine SStore.on 3 rfl ?_ | refine SStore.on 4 rfl ?_ | refine SStore.on 5 rfl ?_ | refine SBox.f ?_ | refine SCall.p (by fail) ?_ | fail | refine SApp.c rfl rfl (by first | assumption | exact Moves.more (by assumption) (by assumption) | fail) (by first | (simp only [length_aBytes, List.length_append, List.length_cons, List.length_nil, List.length_map, List.length_range]; omega) | omega | fail) fun tk1 σ1 hm => ?_ | refine SReg.t 0 [] (by decide +kernel) ?_ | refine And.intro (by first | omega | (simp only [List.length_cons, List.length_append, List.length_nil, List.length_map, length_aBytes, List.length_replicate, List.length_range]; omega) | fail) ?_ | refine ⟨_, ⟨by first | omega | (simp only [List.length_cons, List.length_append, List.length_nil, List.length_map, length_aBytes, List.length_replicate, List.length_range]; omega) | fail, by first | assumption | exact get_map (by assumption) | exact get_bytes (by assumption) | fail⟩, ?_⟩ | refine ⟨_, toBytes_aBytes _, ?_⟩ | refine ⟨_, by repeat (first | exact toB_nil | apply toB_cons | apply toB_consC _ (by first | omega | (simp only [List.length_cons, List.length_append, List.length_nil, List.length_map, length_aBytes, List.length_replicate, List.length_range]; omega) | fail)), ?_⟩ | refine ⟨_, IntWalk.i64_in _ (by first | omega | (simp only [List.length_cons, List.length_append, List.length_nil, List.length_map, length_aBytes, List.length_replicate, List.length_range]; omega) | fail), ?_⟩ | refine ⟨_, wrap_u8 _, ?_⟩ | refine ⟨_, rfl, ?_⟩ | refine ⟨true, fun b1 hb1 => ?_⟩ | intro b1 hb1 | fail); (try refine Xc_h ?_); (try (conv => whnf)); repeat (first | refine Hid.seq ?_ | (refine Hid.reg ?_; (conv => whnf)) | refine Hid.regD ?_ | refine Hid.cond rfl ?_ | refine Hid.block ?_ | refine Hid.loop ?_ | (refine Hid.exit ?_; (conv => whnf)) | (refine Hid.ret ?_; (conv => whnf)) | (refine Hid.skip ?_; (conv => whnf)) | (refine Hid.label ?_; (conv => whnf)) | refine Hid.range ?_)))
    exact .p (.refl _) rfl
  have d3 : decide (a.seq = b.seq) = true := decide_eq_true h3
  by_cases h4 : a.name = b.name
  case neg =>
    have d4 : decide (a.name = b.name) = false := decide_eq_false h4
    have hn : decide (a = b) = false := decide_eq_false fun e => h4 (congrArg OpV.name e)
    rw [hn]
    (try refine Xc_h ?_); (try (conv => whnf)); repeat (first | refine Hid.seq ?_ | (refine Hid.reg ?_; (conv => whnf)) | refine Hid.regD ?_ | refine Hid.cond rfl ?_ | refine Hid.block ?_ | refine Hid.loop ?_ | (refine Hid.exit ?_; (conv => whnf)) | (refine Hid.ret ?_; (conv => whnf)) | (refine Hid.skip ?_; (conv => whnf)) | (refine Hid.label ?_; (conv => whnf)) | refine Hid.range ?_)
    repeat' (((first | refine SIf.y Ty.mixed (by first | exact rfl | assumption | fail) ?_ | refine SIf.n Ty.mixed (by first | exact rfl | assumption | fail) ?_ | refine SCond.y (by first | exact rfl | assumption | fail) ?_ | refine SCond.n (by first | exact rfl | assumption | fail) ?_ | refine SPick.y (by first | exact rfl | assumption | fail) ?_ | refine SPick.n (by first | exact rfl | assumption | fail) ?_ | refine SPick.b ?_ | refine SPick.i ?_ | fail | refine SLoad.on 0 rfl ?_ | refine SLoad.on 1 rfl ?_ | refine SLoad.on 2 rfl ?_ | refine SLoad.on 3 rfl ?_ | refine SLoad.on 4 rfl ?_ | refine SLoad.on 5 rfl ?_ | refine SStore.on 0 rfl ?_ | refine SStore.on 1 rfl ?_ | refine SStore.on 2 rfl ?_ | refine SStore.on 3 rfl ?_ | refine SStore.on 4 rfl ?_ | refine SStore.on 5 rfl ?_ | refine SBox.f ?_ | refine SCall.p (by fail) ?_ | fail | refine SApp.c rfl rfl (by first | assumption | exact Moves.more (by assumption) (by assumption) | fail) (by first | (simp only [length_aBytes, List.length_append, List.length_cons, List.length_nil, List.length_map, List.length_range]; omega) | omega | fail) fun tk1 σ1 hm => ?_ | refine SReg.t 0 [] (by decide +kernel) ?_ | refine And.intro (by first | omega | (simp only [List.length_cons, List.length_append, List.length_nil, List.length_map, length_aBytes, List.length_replicate, List.length_range]; omega) | fail) ?_ | refine ⟨_, ⟨by first | omega | (simp only [List.length_cons, List.length_append, List.length_nil, List.length_map, length_aBytes, List.length_replicate, List.length_range]; omega) | fail, by first | assumption | exact get_map (by assumption) | exact get_bytes (by assumption) | fail⟩, ?_⟩ | refine ⟨_, toBytes_aBytes _, ?_⟩ | refine ⟨_, by repeat (first | exact toB_nil | apply toB_cons | apply toB_consC _ (by first | omega | (simp only [List.length_cons, List.length_append, List.length_nil, List.length_map, length_aBytes, List.length_replicate, List.length_range]; omega) | fail)), ?_⟩ | refine ⟨_, IntWalk.i64_in _ (by first | omega | (simp only [List.length_cons, List.length_append, List.length_nil, List.length_map, length_aBytes, List.length_replicate, List.length_range]; omega) | fail), ?_⟩ | refine ⟨_, wrap_u8 _, ?_⟩ | refine ⟨_, rfl, ?_⟩ | refine ⟨true, fun b1 hb1 => ?_⟩ | intro b1 hb1 | fail); (try refine Xc_h ?_); (try (conv => whnf)); repeat (first | refine Hid.seq ?_ | (refine Hid.reg ?_; (conv => whnf)) | refine Hid.regD ?_ | refine Hid.cond rfl ?_ | refine Hid.block ?_ | refine Hid.loop ?_ | (refine Hid.exit ?_; (conv => whnf)) | (refine Hid.ret ?_; (conv => whnf)) | (refine Hid.skip ?_; (conv => whnf)) | (refine Hid.label ?_; (conv => whnf)) | refine Hid.range ?_)))
    exact .p (.refl _) rfl
  have d4 : decide (a.name = b.name) = true := decide_eq_true h4
  by_cases h5 : a.topic = b.topic
  case neg =>
    have d5 : decide (a.topic = b.topic) = false := decide_eq_false h5
    have hn : decide (a = b) = false := decide_eq_false fun e => h5 (congrArg OpV.topic e)
    rw [hn]
    (try refine Xc_h ?_); (try (conv => whnf)); repeat (first | refine Hid.seq ?_ | (refine Hid.reg ?_; (conv => whnf)) | refine Hid.regD ?_ | refine Hid.cond rfl ?_ | refine Hid.block ?_ | refine Hid.loop ?_ | (refine Hid.exit ?_; (conv => whnf)) | (refine Hid.ret ?_; (conv => whnf)) | (refine Hid.skip ?_; (conv => whnf)) | (refine Hid.label ?_; (conv => whnf)) | refine Hid.range ?_)
    repeat' (((first | refine SIf.y Ty.mixed (by first | exact rfl | assumption | fail) ?_ | refine SIf.n Ty.mixed (by first | exact rfl | assumption | fail) ?_ | refine SCond.y (by first | exact rfl | assumption | fail) ?_ | refine SCond.n (by first | exact rfl | assumption | fail) ?_ | refine SPick.y (by first | exact rfl | assumption | fail) ?_ | refine SPick.n (by first | exact rfl | assumption | fail) ?_ | refine SPick.b ?_ | refine SPick.i ?_ | fail | refine SLoad.on 0 rfl ?_ | refine SLoad.on 1 rfl ?_ | refine SLoad.on 2 rfl ?_ | refine SLoad.on 3 rfl ?_ | refine SLoad.on 4 rfl ?_ | refine SLoad.on 5 rfl ?_ | refine SStore.on 0 rfl ?_ | refine SStore.on 1 rfl ?_ | refine SStore.on 2 rfl ?_ | refine SStore.on 3 rfl ?_ | refine SStore.on 4 rfl ?_ | refine SStore.on 5 rfl ?_ | refine SBox.f ?_ | refine SCall.p (by fail) ?_ | fail | refine SApp.c rfl rfl (by first | assumption | exact Moves.more (by assumption) (by assumption) | fail) (by first | (simp only [length_aBytes, List.length_append, List.length_cons, List.length_nil, List.length_map, List.length_range]; omega) | omega | fail) fun tk1 σ1 hm => ?_ | refine SReg.t 0 [] (by decide +kernel) ?_ | refine And.intro (by first | omega | (simp only [List.length_cons, List.length_append, List.length_nil, List.length_map, length_aBytes, List.length_replicate, List.length_range]; omega) | fail) ?_ | refine ⟨_, ⟨by first | omega | (simp only [List.length_cons, List.length_append, List.length_nil, List.length_map, length_aBytes, List.length_replicate, List.length_range]; omega) | fail, by first | assumption | exact get_map (by assumption) | exact get_bytes (by assumption) | fail⟩, ?_⟩ | refine ⟨_, toBytes_aBytes _, ?_⟩ | refine ⟨_, by repeat (first | exact toB_nil | apply toB_cons | apply toB_consC _ (by first | omega | (simp only [List.length_cons, List.length_append, List.length_nil, List.length_map, length_aBytes, List.length_replicate, List.length_range]; omega) | fail)), ?_⟩ | refine ⟨_, IntWalk.i64_in _ (by first | omega | (simp only [List.length_cons, List.length_append, List.length_nil, List.length_map, length_aBytes, List.length_replicate, List.length_range]; omega) | fail), ?_⟩ | refine ⟨_, wrap_u8 _, ?_⟩ | refine ⟨_, rfl, ?_⟩ | refine ⟨true, fun b1 hb1 => ?_⟩ | intro b1 hb1 | fail); (try refine Xc_h ?_); (try (conv => whnf)); repeat (first | refine Hid.seq ?_ | (refine Hid.reg ?_; (conv => whnf)) | refine Hid.regD ?_ | refine Hid.cond rfl ?_ | refine Hid.block ?_ | refine Hid.loop ?_ | (refine Hid.exit ?_; (conv => whnf)) | (refine Hid.ret ?_; (conv => whnf)) | (refine Hid.skip ?_; (conv => whnf)) | (refine Hid.label ?_; (conv => whnf)) | refine Hid.range ?_)))
    exact .p (.refl _) rfl
  have d5 : decide (a.topic = b.topic) = true := decide_eq_true h5
  by_cases h6 : a.want = b.want
  case neg =>
    have d6 : decide (a.want = b.want) = false := decide_eq_false h6
    have hn : decide (a = b) = false := decide_eq_false fun e => h6 (congrArg OpV.want e)
    rw [hn]
    (try refine Xc_h ?_); (try (conv => whnf)); repeat (first | refine Hid.seq ?_ | (refine Hid.reg ?_; (conv => whnf)) | refine Hid.regD ?_ | refine Hid.cond rfl ?_ | refine Hid.block ?_ | refine Hid.loop ?_ | (refine Hid.exit ?_; (conv => whnf)) | (refine Hid.ret ?_; (conv => whnf)) | (refine Hid.skip ?_; (conv => whnf)) | (refine Hid.label ?_; (conv => whnf)) | refine Hid.range ?_)
    repeat' (((first | refine SIf.y Ty.mixed (by first | exact rfl | assumption | fail) ?_ | refine SIf.n Ty.mixed (by first | exact rfl | assumption | fail) ?_ | refine SCond.y (by first | exact rfl | assumption | fail) ?_ | refine SCond.n (by first | exact rfl | assumption | fail) ?_ | refine SPick.y (by first | exact rfl | assumption | fail) ?_ | refine SPick.n (by first | exact rfl | assumption | fail) ?_ | refine SPick.b ?_ | refine SPick.i ?_ | fail | refine SLoad.on 0 rfl ?_ | refine SLoad.on 1 rfl ?_ | refine SLoad.on 2 rfl ?_ | refine SLoad.on 3 rfl ?_ | refine SLoad.on 4 rfl ?_ | refine SLoad.on 5 rfl ?_ | refine SStore.on 0 rfl ?_ | refine SStore.on 1 rfl ?_ | refine SStore.on 2 rfl ?_ | refine SStore.on 3 rfl ?_ | refine SStore.on 4 rfl ?_ | refine SStore.on 5 rfl ?_ | refine SBox.f ?_ | refine SCall.p (by fail) ?_ | fail | refine SApp.c rfl rfl (by first | assumption | exact Moves.more (by assumption) (by assumption) | fail) (by first | (simp only [length_aBytes, List.length_append, List.length_cons, List.length_nil, List.length_map, List.length_range]; omega) | omega | fail) fun tk1 σ1 hm => ?_ | refine SReg.t 0 [] (by decide +kernel) ?_ | refine And.intro (by first | omega | (simp only [List.length_cons, List.length_append, List.length_nil, List.length_map, length_aBytes, List.length_replicate, List.length_range]; omega) | fail) ?_ | refine ⟨_, ⟨by first | omega | (simp only [List.length_cons, List.length_append, List.length_nil, List.length_map, length_aBytes, List.length_replicate, List.length_range]; omega) | fail, by first | assumption | exact get_map (by assumption) | exact get_bytes (by assumption) | fail⟩, ?_⟩ | refine ⟨_, toBytes_aBytes _, ?_⟩ | refine ⟨_, by repeat (first | exact toB_nil | apply toB_cons | apply toB_consC _ (by first | omega | (simp only [List.length_cons, List.length_append, List.length_nil, List.length_map, length_aBytes, List.length_replicate, List.length_range]; omega) | fail)), ?_⟩ | refine ⟨_, IntWalk.i64_in _ (by first | omega | (simp only [List.length_cons, List.length_append, List.length_nil, List.length_map, length_aBytes, List.length_replicate, List.length_range]; omega) | fail), ?_⟩ | refine ⟨_, wrap_u8 _, ?_⟩ | refine ⟨_, rfl, ?_⟩ | refine ⟨true, fun b1 hb1 => ?_⟩ | intro b1 hb1 | fail); (try refine Xc_h ?_); (try (conv => whnf)); repeat (first | refine Hid.seq ?_ | (refine Hid.reg ?_; (conv => whnf)) | refine Hid.regD ?_ | refine Hid.cond rfl ?_ | refine Hid.block ?_ | refine Hid.loop ?_ | (refine Hid.exit ?_; (conv => whnf)) | (refine Hid.ret ?_; (conv => whnf)) | (refine Hid.skip ?_; (conv => whnf)) | (refine Hid.label ?_; (conv => whnf)) | refine Hid.range ?_)))
    exact .p (.refl _) rfl
  have d6 : decide (a.want = b.want) = true := decide_eq_true h6
  by_cases h7 : a.body = b.body
  case neg =>
    have d7 : decide (a.body = b.body) = false := decide_eq_false h7
    have hn : decide (a = b) = false := decide_eq_false fun e => h7 (congrArg OpV.body e)
    rw [hn]
    (try refine Xc_h ?_); (try (conv => whnf)); repeat (first | refine Hid.seq ?_ | (refine Hid.reg ?_; (conv => whnf)) | refine Hid.regD ?_ | refine Hid.cond rfl ?_ | refine Hid.block ?_ | refine Hid.loop ?_ | (refine Hid.exit ?_; (conv => whnf)) | (refine Hid.ret ?_; (conv => whnf)) | (refine Hid.skip ?_; (conv => whnf)) | (refine Hid.label ?_; (conv => whnf)) | refine Hid.range ?_)
    repeat' (((first | refine SIf.y Ty.mixed (by first | exact rfl | assumption | fail) ?_ | refine SIf.n Ty.mixed (by first | exact rfl | assumption | fail) ?_ | refine SCond.y (by first | exact rfl | assumption | fail) ?_ | refine SCond.n (by first | exact rfl | assumption | fail) ?_ | refine SPick.y (by first | exact rfl | assumption | fail) ?_ | refine SPick.n (by first | exact rfl | assumption | fail) ?_ | refine SPick.b ?_ | refine SPick.i ?_ | fail | refine SLoad.on 0 rfl ?_ | refine SLoad.on 1 rfl ?_ | refine SLoad.on 2 rfl ?_ | refine SLoad.on 3 rfl ?_ | refine SLoad.on 4 rfl ?_ | refine SLoad.on 5 rfl ?_ | refine SStore.on 0 rfl ?_ | refine SStore.on 1 rfl ?_ | refine SStore.on 2 rfl ?_ | refine SStore.on 3 rfl ?_ | refine SStore.on 4 rfl ?_ | refine SStore.on 5 rfl ?_ | refine SBox.f ?_ | refine SCall.p (by fail) ?_ | fail | refine SApp.c rfl rfl (by first | assumption | exact Moves.more (by assumption) (by assumption) | fail) (by first | (simp only [length_aBytes, List.length_append, List.length_cons, List.length_nil, List.length_map, List.length_range]; omega) | omega | fail) fun tk1 σ1 hm => ?_ | refine SReg.t 0 [] (by decide +kernel) ?_ | refine And.intro (by first | omega | (simp only [List.length_cons, List.length_append, List.length_nil, List.length_map, length_aBytes, List.length_replicate, List.length_range]; omega) | fail) ?_ | refine ⟨_, ⟨by first | omega | (simp only [List.length_cons, List.length_append, List.length_nil, List.length_map, length_aBytes, List.length_replicate, List.length_range]; omega) | fail, by first | assumption | exact get_map (by assumption) | exact get_bytes (by assumption) | fail⟩, ?_⟩ | refine ⟨_, toBytes_aBytes _, ?_⟩ | refine ⟨_, by repeat (first | exact toB_nil | apply toB_cons | apply toB_consC _ (by first | omega | (simp only [List.length_cons, List.length_append, List.length_nil, List.length_map, length_aBytes, List.length_replicate, List.length_range]; omega) | fail)), ?_⟩ | refine ⟨_, IntWalk.i64_in _ (by first | omega | (simp only [List.length_cons, List.length_append, List.length_nil, List.length_map, length_aBytes, List.length_replicate, List.length_range]; omega) | fail), ?_⟩ | refine ⟨_, wrap_u8 _, ?_⟩ | refine ⟨_, rfl, ?_⟩ | refine ⟨true, fun b1 hb1 => ?_⟩ | intro b1 hb1 | fail); (try refine Xc_h ?_); (try (conv => whnf)); repeat (first | refine Hid.seq ?_ | (refine Hid.reg ?_; (conv => whnf)) | refine Hid.regD ?_ | refine Hid.cond rfl ?_ | refine Hid.block ?_ | refine Hid.loop ?_ | (refine Hid.exit ?_; (conv => whnf)) | (refine Hid.ret ?_; (conv => whnf)) | (refine Hid.skip ?_; (conv => whnf)) | (refine Hid.label ?_; (conv => whnf)) | refine Hid.range ?_)))
    exact .p (.refl _) rfl
  have d7 : decide (a.body = b.body) = true := decide_eq_true h7
  by_cases h8 : a.attr = b.attr
  case neg =>
    have d8 : decide (a.attr = b.attr) = false := decide_eq_false h8
    have hn : decide (a = b) = false := decide_eq_false fun e => h8 (congrArg OpV.attr e)
    rw [hn]
    (try refine Xc_h ?_); (try (conv => whnf)); repeat (first | refine Hid.seq ?_ | (refine Hid.reg ?_; (conv => whnf)) | refine Hid.regD ?_ | refine Hid.cond rfl ?_ | refine Hid.block ?_ | refine Hid.loop ?_ | (refine Hid.exit ?_; (conv => whnf)) | (refine Hid.ret ?_; (conv => whnf)) | (refine Hid.skip ?_; (conv => whnf)) | (refine Hid.label ?_; (conv => whnf)) | refine Hid.range ?_)
    repeat' (((first | refine SIf.y Ty.mixed (by first | exact rfl | assumption | fail) ?_ | refine SIf.n Ty.mixed (by first | exact rfl | assumption | fail) ?_ | refine SCond.y (by first | exact rfl | assumption | fail) ?_ | refine SCond.n (by first | exact rfl | assumption | fail) ?_ | refine SPick.y (by first | exact rfl | assumption | fail) ?_ | refine SPick.n (by first | exact rfl | assumption | fail) ?_ | refine SPick.b ?_ | refine SPick.i ?_ | fail | refine SLoad.on 0 rfl ?_ | refine SLoad.on 1 rfl ?_ | refine SLoad.on 2 rfl ?_ | refine SLoad.on 3 rfl ?_ | refine SLoad.on 4 rfl ?_ | refine SLoad.on 5 rfl ?_ | refine SStore.on 0 rfl ?_ | refine SStore.on 1 rfl ?_ | refine SStore.on 2 rfl ?_ | refine SStore.on 3 rfl ?_ | refine SStore.on 4 rfl ?_ | refine SStore.on 5 rfl ?_ | refine SBox.f ?_ | refine SCall.p (by fail) ?_ | fail | refine SApp.c rfl rfl (by first | assumption | exact Moves.more (by assumption) (by assumption) | fail) (by first | (simp only [length_aBytes, List.length_append, List.length_cons, List.length_nil, List.length_map, List.length_range]; omega) | omega | fail) fun tk1 σ1 hm => ?_ | refine SReg.t 0 [] (by decide +kernel) ?_ | refine And.intro (by first | omega | (simp only [List.length_cons, List.length_append, List.length_nil, List.length_map, length_aBytes, List.length_replicate, List.length_range]; omega) | fail) ?_ | refine ⟨_, ⟨by first | omega | (simp only [List.length_cons, List.length_append, List.length_nil, List.length_map, length_aBytes, List.length_replicate, List.length_range]; omega) | fail, by first | assumption | exact get_map (by assumption) | exact get_bytes (by assumption) | fail⟩, ?_⟩ | refine ⟨_, toBytes_aBytes _, ?_⟩ | refine ⟨_, by repeat (first | exact toB_nil | apply toB_cons | apply toB_consC _ (by first | omega | (simp only [List.length_cons, List.length_append, List.length_nil, List.length_map, length_aBytes, List.length_replicate, List.length_range]; omega) | fail)), ?_⟩ | refine ⟨_, IntWalk.i64_in _ (by first | omega | (simp only [List.length_cons, List.length_append, List.length_nil, List.length_map, length_aBytes, List.length_replicate, List.length_range]; omega) | fail), ?_⟩ | refine ⟨_, wrap_u8 _, ?_⟩ | refine ⟨_, rfl, ?_⟩ | refine ⟨true, fun b1 hb1 => ?_⟩ | intro b1 hb1 | fail); (try refine Xc_h ?_); (try (conv => whnf)); repeat (first | refine Hid.seq ?_ | (refine Hid.reg ?_; (conv => whnf)) | refine Hid.regD ?_ | refine Hid.cond rfl ?_ | refine Hid.block ?_ | refine Hid.loop ?_ | (refine Hid.exit ?_; (conv => whnf)) | (refine Hid.ret ?_; (conv => whnf)) | (refine Hid.skip ?_; (conv => whnf)) | (refine Hid.label ?_; (conv => whnf)) | refine Hid.range ?_)))
    exact .p (.refl _) rfl
  have d8 : decide (a.attr = b.attr) = true := decide_eq_true h8
  by_cases h9 : a.data = b.data
  case neg =>
    have d9 : decide (a.data = b.data) = false := decide_eq_false h9
    have hn : decide (a = b) = false := decide_eq_false fun e => h9 (congrArg OpV.data e)
    rw [hn]
    (try refine Xc_h ?_); (try (conv => whnf)); repeat (first | refine Hid.seq ?_ | (refine Hid.reg ?_; (conv => whnf)) | refine Hid.regD ?_ | refine Hid.cond rfl ?_ | refine Hid.block ?_ | refine Hid.loop ?_ | (refine Hid.exit ?_; (conv => whnf)) | (refine Hid.ret ?_; (conv => whnf)) | (refine Hid.skip ?_; (conv => whnf)) | (refine Hid.label ?_; (conv => whnf)) | refine Hid.range ?_)
    repeat' (((first | refine SIf.y Ty.mixed (by first | exact rfl | assumption | fail) ?_ | refine SIf.n Ty.mixed (by first | exact rfl | assumption | fail) ?_ | refine SCond.y (by first | exact rfl | assumption | fail) ?_ | refine SCond.n (by first | exact rfl | assumption | fail) ?_ | refine SPick.y (by first | exact rfl | assumption | fail) ?_ | refine SPick.n (by first | exact rfl | assumption | fail) ?_ | refine SPick.b ?_ | refine SPick.i ?_ | fail | refine SLoad.on 0 rfl ?_ | refine SLoad.on 1 rfl ?_ | refine SLoad.on 2 rfl ?_ | refine SLoad.on 3 rfl ?_ | refine SLoad.on 4 rfl ?_ | refine SLoad.on 5 rfl ?_ | refine SStore.on 0 rfl ?_ | refine SStore.on 1 rfl ?_ | refine SStore.on 2 rfl ?_ | refine SStore.on 3 rfl ?_ | refine SStore.on 4 rfl ?_ | refine SStore.on 5 rfl ?_ | refine SBox.f ?_ | refine SCall.p (by fail) ?_ | fail | refine SApp.c rfl rfl (by first | assumption | exact Moves.more (by assumption) (by assumption) | fail) (by first | (simp only [length_aBytes, List.length_append, List.length_cons, List.length_nil, List.length_map, List.length_range]; omega) | omega | fail) fun tk1 σ1 hm => ?_ | refine SReg.t 0 [] (by decide +kernel) ?_ | refine And.intro (by first | omega | (simp only [List.length_cons, List.length_append, List.length_nil, List.length_map, length_aBytes, List.length_replicate, List.length_range]; omega) | fail) ?_ | refine ⟨_, ⟨by first | omega | (simp only [List.length_cons, List.length_append, List.length_nil, List.length_map, length_aBytes, List.length_replicate, List.length_range]; omega) | fail, by first | assumption | exact get_map (by assumption) | exact get_bytes (by assumption) | fail⟩, ?_⟩ | refine ⟨_, toBytes_aBytes _, ?_⟩ | refine ⟨_, by repeat (first | exact toB_nil | apply toB_cons | apply toB_consC _ (by first | omega | (simp only [List.length_cons, List.length_append, List.length_nil, List.length_map, length_aBytes, List.length_replicate, List.length_range]; omega) | fail)), ?_⟩ | refine ⟨_, IntWalk.i64_in _ (by first | omega | (simp only [List.length_cons, List.length_append, List.length_nil, List.length_map, length_aBytes, List.length_replicate, List.length_range]; omega) | fail), ?_⟩ | refine ⟨_, wrap_u8 _, ?_⟩ | refine ⟨_, rfl, ?_⟩ | refine ⟨true, fun b1 hb1 => ?_⟩ | intro b1 hb1 | fail); (try refine Xc_h ?_); (try (conv => whnf)); repeat (first | refine Hid.seq ?_ | (refine Hid.reg ?_; (conv => whnf)) | refine Hid.regD ?_ | refine Hid.cond rfl ?_ | refine Hid.block ?_ | refine Hid.loop ?_ | (refine Hid.exit ?_; (conv => whnf)) | (refine Hid.ret ?_; (conv => whnf)) | (refine Hid.skip ?_; (conv => whnf)) | (refine Hid.label ?_; (conv => whnf)) | refine Hid.range ?_)))
    exact .p (.refl _) (by rw [d9])
  have d9 : decide (a.data = b.data) = true := decide_eq_true h9
  have hn : decide (a = b) = true := decide_eq_true (by cases a; cases b; simp_all)
  rw [hn]
  (try refine Xc_h ?_); (try (conv => whnf)); repeat (first | refine Hid.seq ?_ | (refine Hid.reg ?_; (conv => whnf)) | refine Hid.regD ?_ | refine Hid.cond rfl ?_ | refine Hid.block ?_ | refine Hid.loop ?_ | (refine Hid.exit ?_; (conv => whnf)) | (refine Hid.ret ?_; (conv => whnf)) | (refine Hid.skip ?_; (conv => whnf)) | (refine Hid.label ?_; (conv => whnf)) | refine Hid.range ?_)
  repeat' (((first | refine SIf.y Ty.mixed (by first | exact rfl | assumption | fail) ?_ | refine SIf.n Ty.mixed (by first | exact rfl | assumption | fail) ?_ | refine SCond.y (by first | exact rfl | assumption | fail) ?_ | refine SCond.n (by first | exact rfl | assumption | fail) ?_ | refine SPick.y (by first | exact rfl | assumption | fail) ?_ | refine SPick.n (by first | exact rfl | assumption | fail) ?_ | refine SPick.b ?_ | refine SPick.i ?_ | fail | refine SLoad.on 0 rfl ?_ | refine SLoad.on 1 rfl ?_ | refine SLoad.on 2 rfl ?_ | refine SLoad.on 3 rfl ?_ | refine SLoad.on 4 rfl ?_ | refine SLoad.on 5 rfl ?_ | refine SStore.on 0 rfl ?_ | refine SStore.on 1 rfl ?_ | refine SStore.on 2 rfl ?_ | refine SStore.on 3 rfl ?_ | refine SStore.on 4 rfl ?_ | refine SStore.on 5 rfl ?_ | refine SBox.f ?_ | refine SCall.p (by fail) ?_ | fail | refine SApp.c rfl rfl (by first | assumption | exact Moves.more (by assumption) (by assumption) | fail) (by first | (simp only [length_aBytes, List.length_append, List.length_cons, List.length_nil, List.length_map, List.length_range]; omega) | omega | fail) fun tk1 σ1 hm => ?_ | refine SReg.t 0 [] (by decide +kernel) ?_ | refine And.intro (by first | omega | (simp only [List.length_cons, List.length_append, List.length_nil, List.length_map, length_aBytes, List.length_replicate, List.length_range]; omega) | fail) ?_ | refine ⟨_, ⟨by first | omega | (simp only [List.length_cons, List.length_append, List.length_nil, List.length_map, length_aBytes, List.length_replicate, List.length_range]; omega) | fail, by first | assumption | exact get_map (by assumption) | exact get_bytes (by assumption) | fail⟩, ?_⟩ | refine ⟨_, toBytes_aBytes _, ?_⟩ | refine ⟨_, by repeat (first | exact toB_nil | apply toB_cons | apply toB_consC _ (by first | omega | (simp only [List.length_cons, List.length_append, List.length_nil, List.length_map, length_aBytes, List.length_replicate, List.length_range]; omega) | fail)), ?_⟩ | refine ⟨_, IntWalk.i64_in _ (by first | omega | (simp only [List.length_cons, List.length_append, List.length_nil, List.length_map, length_aBytes, List.length_replicate, List.length_range]; omega) | fail), ?_⟩ | refine ⟨_, wrap_u8 _, ?_⟩ | refine ⟨_, rfl, ?_⟩ | refine ⟨true, fun b1 hb1 => ?_⟩ | intro b1 hb1 | fail); (try refine Xc_h ?_); (try (conv => whnf)); repeat (first | refine Hid.seq ?_ | (refine Hid.reg ?_; (conv => whnf)) | refine Hid.regD ?_ | refine Hid.cond rfl ?_ | refine Hid.block ?_ | refine Hid.loop ?_ | (refine Hid.exit ?_; (conv => whnf)) | (refine Hid.ret ?_; (conv => whnf)) | (refine Hid.skip ?_; (conv => whnf)) | (refine Hid.label ?_; (conv => whnf)) | refine Hid.range ?_)))
  exact .p (.refl _) (by rw [d9])
def muchN (o : OpV) : Nat := o.name.length + o.topic.length + o.want.length + o.body.length + o.attr.length + o.data.length
theorem much_any (w0 : Base) (o : OpV) (h : OpIn o) : CallP Tryd.prog w0 14 [eOp o] (.bool (decide (400 < muchN o))) := by
  obtain ⟨i1, i2, i3, i4, h1, h2, h3, h4, h5, h6⟩ := h
  have hal : (aBytes o.data).length = o.data.length := by simp [aBytes]
  refine CallP.h Ty.tok Ty.mixed Tryd.func14 rfl Tryd.ntmps14 rfl (by simp) (by decide +kernel) fun σ => ?_
  (try refine Xc_h ?_); (try (conv => whnf)); repeat (first | refine Hid.seq ?_ | (refine Hid.reg ?_; (conv => whnf)) | refine Hid.regD ?_ | refine Hid.cond rfl ?_ | refine Hid.block ?_ | refine Hid.loop ?_ | (refine Hid.exit ?_; (conv => whnf)) | (refine Hid.ret ?_; (conv => whnf)) | (refine Hid.skip ?_; (conv => whnf)) | (refine Hid.label ?_; (conv => whnf)) | refine Hid.range ?_)
  repeat' (((first | refine SIf.y Ty.mixed (by first | exact rfl | assumption | fail) ?_ | refine SIf.n Ty.mixed (by first | exact rfl | assumption | fail) ?_ | refine SCond.y (by first | exact rfl | assumption | fail) ?_ | refine SCond.n (by first | exact rfl | assumption | fail) ?_ | refine SPick.y (by first | exact rfl | assumption | fail) ?_ | refine SPick.n (by first | exact rfl | assumption | fail) ?_ | refine SPick.b ?_ | refine SPick.i ?_ | fail | refine SLoad.on 0 rfl ?_ | refine SLoad.on 1 rfl ?_ | refine SLoad.on 2 rfl ?_ | refine SLoad.on 3 rfl ?_ | refine SLoad.on 4 rfl ?_ | refine SLoad.on 5 rfl ?_ | refine SStore.on 0 rfl ?_ | refine SStore.on 1 rfl ?_ | refine SStore.on 2 rfl ?_ | refine SStore.on 3 rfl ?_ | refine SStore.on 4 rfl ?_ | refine SStore.on 5 rfl ?_ | refine SBox.f ?_ | refine SCall.p (by fail) ?_ | fail | refine SApp.c rfl rfl (by first | assumption | exact Moves.more (by assumption) (by assumption) | fail) (by first | (simp only [length_aBytes, List.length_append, List.length_cons, List.length_nil, List.length_map, List.length_range]; omega) | omega | fail) fun tk1 σ1 hm => ?_ | refine SReg.t 0 [] (by decide +kernel) ?_ | refine And.intro (by first | omega | fail) ?_ | refine ⟨_, ⟨by first | omega | fail, by first | assumption | exact get_map (by assumption) | exact get_bytes (by assumption) | fail⟩, ?_⟩ | refine ⟨_, toBytes_aBytes _, ?_⟩ | refine ⟨_, by repeat (first | exact toB_nil | apply toB_cons | apply toB_consC _ (by first | omega | fail)), ?_⟩ | refine ⟨_, IntWalk.i64_in _ (by first | omega | fail), ?_⟩ | refine ⟨_, wrap_u8 _, ?_⟩ | refine ⟨_, rfl, ?_⟩ | refine ⟨true, fun b1 hb1 => ?_⟩ | intro b1 hb1 | fail); (try refine Xc_h ?_); (try (conv => whnf)); repeat (first | refine Hid.seq ?_ | (refine Hid.reg ?_; (conv => whnf)) | refine Hid.regD ?_ | refine Hid.cond rfl ?_ | refine Hid.block ?_ | refine Hid.loop ?_ | (refine Hid.exit ?_; (conv => whnf)) | (refine Hid.ret ?_; (conv => whnf)) | (refine Hid.skip ?_; (conv => whnf)) | (refine Hid.label ?_; (conv => whnf)) | refine Hid.range ?_)))
  exact .p (.refl _) (by rw [hal]; exact congrArg AV.bool (decide_eq_decide.2 (by rw [muchN]; omega)))
theorem quote_signs (s : List UInt8) : ∀ b ∈ quoteT s, 32 < b.toNat ∧ b.toNat ≤ 126 := by
  have hd : ∀ n, n < 16 → 32 < (hexD n).toNat ∧ (hexD n).toNat ≤ 126 := by decide
  intro b hb
  rw [quoteT] at hb
  split at hb
  · rw [List.mem_singleton.1 hb]; decide
  · obtain ⟨c, _, hc⟩ := List.mem_flatMap.1 hb
    rw [quo1] at hc
    split at hc
    · rename_i hp
      rw [List.mem_singleton.1 hc]
      simp only [plainB, Bool.and_eq_true, decide_eq_true_eq] at hp
      exact ⟨hp.1, hp.2.1⟩
    · have h1 := c.toNat_lt
      simp only [hexT, List.mem_cons, List.not_mem_nil, or_false] at hc
      rcases hc with rfl | rfl | rfl
      · decide
      · exact hd _ (by omega)
      · exact hd _ (by omega)
theorem printT_cases {o : OpV} (h : OpS o) : (parseT (printT o).1 = (o, 0) ∧ (printT o).2 = true ∧ (printT o).1.length ≤ 30000) ∨ printT o = ([], false) := by
  rw [printT]
  split
  · exact .inr rfl
  · rename_i hk
    split
    · rename_i hp
      exact .inl ⟨hp, rfl, printS_len h hk⟩
    · exact .inr rfl
theorem gateBack_any (w0 : Base) (hL : Laid w0) (o : OpV) (cs : List UInt8) (tc : Tok) (s : List UInt8) (ho : OpIn o) (hc : cs.length ≤ 9223372036854775807) (hs : s.length ≤ 1000000000000000) (σ : St) : CallW Tryd.prog w0 6 [eOp o, .slc 1 (aBytes cs) tc, .str s] σ (fun r _ => r = .bool true) := by
  have hk := known22_any w0 hL
  have hm := much_any w0 o ho
  refine CallW.h (B := []) Ty.tok Ty.mixed Tryd.func6 rfl Tryd.ntmps6 rfl (by simp) (by decide +kernel) (.nil σ) ?_
  by_cases hmu : 400 < muchN o
  · have d1 : decide (400 < muchN o) = true := decide_eq_true hmu
    (try refine Xc_h ?_); (try (conv => whnf)); repeat (first | refine Hid.seq ?_ | (refine Hid.reg ?_; (conv => whnf)) | refine Hid.regD ?_ | refine Hid.cond rfl ?_ | refine Hid.block ?_ | refine Hid.loop ?_ | (refine Hid.exit ?_; (conv => whnf)) | (refine Hid.ret ?_; (conv => whnf)) | (refine Hid.skip ?_; (conv => whnf)) | (refine Hid.label ?_; (conv => whnf)) | refine Hid.range ?_)
    repeat' (((first | refine SIf.y Ty.mixed (by first | exact rfl | assumption | fail) ?_ | refine SIf.n Ty.mixed (by first | exact rfl | assumption | fail) ?_ | refine SCond.y (by first | exact rfl | assumption | fail) ?_ | refine SCond.n (by first | exact rfl | assumption | fail) ?_ | refine SPick.y (by first | exact rfl | assumption | fail) ?_ | refine SPick.n (by first | exact rfl | assumption | fail) ?_ | refine SPick.b ?_ | refine SPick.i ?_ | fail | refine SLoad.on 0 rfl ?_ | refine SLoad.on 1 rfl ?_ | refine SLoad.on 2 rfl ?_ | refine SLoad.on 3 rfl ?_ | refine SLoad.on 4 rfl ?_ | refine SLoad.on 5 rfl ?_ | refine SStore.on 0 rfl ?_ | refine SStore.on 1 rfl ?_ | refine SStore.on 2 rfl ?_ | refine SStore.on 3 rfl ?_ | refine SStore.on 4 rfl ?_ | refine SStore.on 5 rfl ?_ | refine SBox.f ?_ | refine SCall.p (by first | exact hk | exact hm) ?_ | fail | refine SApp.c rfl rfl (by first | assumption | exact Moves.more (by assumption) (by assumption) | fail) (by first | (simp only [length_aBytes, List.length_append, List.length_cons, List.length_nil, List.length_map, List.length_range]; omega) | omega | fail) fun tk1 σ1 hm => ?_ | refine SReg.t 0 [] (by decide +kernel) ?_ | refine And.intro (by first | omega | fail) ?_ | refine ⟨_, ⟨by first | omega | fail, by first | assumption | exact get_map (by assumption) | exact get_bytes (by assumption) | fail⟩, ?_⟩ | refine ⟨_, toBytes_aBytes _, ?_⟩ | refine ⟨_, by repeat (first | exact toB_nil | apply toB_cons | apply toB_consC _ (by first | omega | fail)), ?_⟩ | refine ⟨_, IntWalk.i64_in _ (by first | omega | fail), ?_⟩ | refine ⟨_, wrap_u8 _, ?_⟩ | refine ⟨_, rfl, ?_⟩ | refine ⟨true, fun b1 hb1 => ?_⟩ | intro b1 hb1 | fail); (try refine Xc_h ?_); (try (conv => whnf)); repeat (first | refine Hid.seq ?_ | (refine Hid.reg ?_; (conv => whnf)) | refine Hid.regD ?_ | refine Hid.cond rfl ?_ | refine Hid.block ?_ | refine Hid.loop ?_ | (refine Hid.exit ?_; (conv => whnf)) | (refine Hid.ret ?_; (conv => whnf)) | (refine Hid.skip ?_; (conv => whnf)) | (refine Hid.label ?_; (conv => whnf)) | refine Hid.range ?_)))
    exact .w rfl
  have d1 : decide (400 < muchN o) = false := decide_eq_false hmu
  by_cases h300 : 300 < s.length
  · have d2 : decide ((300 : Int) < (s.length : Int)) = true := decide_eq_true (by omega)
    (try refine Xc_h ?_); (try (conv => whnf)); repeat (first | refine Hid.seq ?_ | (refine Hid.reg ?_; (conv => whnf)) | refine Hid.regD ?_ | refine Hid.cond rfl ?_ | refine Hid.block ?_ | refine Hid.loop ?_ | (refine Hid.exit ?_; (conv => whnf)) | (refine Hid.ret ?_; (conv => whnf)) | (refine Hid.skip ?_; (conv => whnf)) | (refine Hid.label ?_; (conv => whnf)) | refine Hid.range ?_)
    repeat' (((first | refine SIf.y Ty.mixed (by first | exact rfl | assumption | fail) ?_ | refine SIf.n Ty.mixed (by first | exact rfl | assumption | fail) ?_ | refine SCond.y (by first | exact rfl | assumption | fail) ?_ | refine SCond.n (by first | exact rfl | assumption | fail) ?_ | refine SPick.y (by first | exact rfl | assumption | fail) ?_ | refine SPick.n (by first | exact rfl | assumption | fail) ?_ | refine SPick.b ?_ | refine SPick.i ?_ | fail | refine SLoad.on 0 rfl ?_ | refine SLoad.on 1 rfl ?_ | refine SLoad.on 2 rfl ?_ | refine SLoad.on 3 rfl ?_ | refine SLoad.on 4 rfl ?_ | refine SLoad.on 5 rfl ?_ | refine SStore.on 0 rfl ?_ | refine SStore.on 1 rfl ?_ | refine SStore.on 2 rfl ?_ | refine SStore.on 3 rfl ?_ | refine SStore.on 4 rfl ?_ | refine SStore.on 5 rfl ?_ | refine SBox.f ?_ | refine SCall.p (by first | exact hk | exact hm) ?_ | fail | refine SApp.c rfl rfl (by first | assumption | exact Moves.more (by assumption) (by assumption) | fail) (by first | (simp only [length_aBytes, List.length_append, List.length_cons, List.length_nil, List.length_map, List.length_range]; omega) | omega | fail) fun tk1 σ1 hm => ?_ | refine SReg.t 0 [] (by decide +kernel) ?_ | refine And.intro (by first | omega | fail) ?_ | refine ⟨_, ⟨by first | omega | fail, by first | assumption | exact get_map (by assumption) | exact get_bytes (by assumption) | fail⟩, ?_⟩ | refine ⟨_, toBytes_aBytes _, ?_⟩ | refine ⟨_, by repeat (first | exact toB_nil | apply toB_cons | apply toB_consC _ (by first | omega | fail)), ?_⟩ | refine ⟨_, IntWalk.i64_in _ (by first | omega | fail), ?_⟩ | refine ⟨_, wrap_u8 _, ?_⟩ | refine ⟨_, rfl, ?_⟩ | refine ⟨true, fun b1 hb1 => ?_⟩ | intro b1 hb1 | fail); (try refine Xc_h ?_); (try (conv => whnf)); repeat (first | refine Hid.seq ?_ | (refine Hid.reg ?_; (conv => whnf)) | refine Hid.regD ?_ | refine Hid.cond rfl ?_ | refine Hid.block ?_ | refine Hid.loop ?_ | (refine Hid.exit ?_; (conv => whnf)) | (refine Hid.ret ?_; (conv => whnf)) | (refine Hid.skip ?_; (conv => whnf)) | (refine Hid.label ?_; (conv => whnf)) | refine Hid.range ?_)))
    exact .w rfl
  have d2 : decide ((300 : Int) < (s.length : Int)) = false := decide_eq_false (by omega)
  have hS : OpS o := ⟨by rw [muchN] at hmu; omega, ⟨ho.sub, ho.n, ho.seq⟩, ho.kind⟩
  have hq := quote_any w0 s (by omega)
  have hsg := quote_signs s
  have hql := quoteT_len s
  have hu := unquote_any w0 (quoteT s) (by omega)
  rw [unqR_eq, uq, uk, unq_quote s] at hu
  have hp := print_any w0 hL o hS
  have hpc := printT_cases hS
  have hsame := sameOp_any w0 o o
  have d3 : decide (s = s) = true := by simp
  have d4 : decide (o = o) = true := by simp
  generalize quoteT s = q at *
  (try refine Xc_h ?_); (try (conv => whnf)); repeat (first | refine Hid.seq ?_ | (refine Hid.reg ?_; (conv => whnf)) | refine Hid.regD ?_ | refine Hid.cond rfl ?_ | refine Hid.block ?_ | refine Hid.loop ?_ | (refine Hid.exit ?_; (conv => whnf)) | (refine Hid.ret ?_; (conv => whnf)) | (refine Hid.skip ?_; (conv => whnf)) | (refine Hid.label ?_; (conv => whnf)) | refine Hid.range ?_)
  repeat' (((first | refine SIf.y Ty.mixed (by first | exact rfl | assumption | fail) ?_ | refine SIf.n Ty.mixed (by first | exact rfl | assumption | fail) ?_ | refine SCond.y (by first | exact rfl | assumption | fail) ?_ | refine SCond.n (by first | exact rfl | assumption | fail) ?_ | refine SPick.y (by first | exact rfl | assumption | fail) ?_ | refine SPick.n (by first | exact rfl | assumption | fail) ?_ | refine SPick.b ?_ | refine SPick.i ?_ | fail | refine SLoad.on 0 rfl ?_ | refine SLoad.on 1 rfl ?_ | refine SLoad.on 2 rfl ?_ | refine SLoad.on 3 rfl ?_ | refine SLoad.on 4 rfl ?_ | refine SLoad.on 5 rfl ?_ | refine SStore.on 0 rfl ?_ | refine SStore.on 1 rfl ?_ | refine SStore.on 2 rfl ?_ | refine SStore.on 3 rfl ?_ | refine SStore.on 4 rfl ?_ | refine SStore.on 5 rfl ?_ | refine SBox.f ?_ | refine SCall.p (by first | exact hk | exact hm | exact hq | exact hu) ?_ | fail | refine SApp.c rfl rfl (by first | assumption | exact Moves.more (by assumption) (by assumption) | fail) (by first | (simp only [length_aBytes, List.length_append, List.length_cons, List.length_nil, List.length_map, List.length_range]; omega) | omega | fail) fun tk1 σ1 hm => ?_ | refine SReg.t 0 [] (by decide +kernel) ?_ | refine And.intro (by first | omega | fail) ?_ | refine ⟨_, ⟨by first | omega | fail, by first | assumption | exact get_map (by assumption) | exact get_bytes (by assumption) | fail⟩, ?_⟩ | refine ⟨_, toBytes_aBytes _, ?_⟩ | refine ⟨_, by repeat (first | exact toB_nil | apply toB_cons | apply toB_consC _ (by first | omega | fail)), ?_⟩ | refine ⟨_, IntWalk.i64_in _ (by first | omega | fail), ?_⟩ | refine ⟨_, wrap_u8 _, ?_⟩ | refine ⟨_, rfl, ?_⟩ | refine ⟨true, fun b1 hb1 => ?_⟩ | intro b1 hb1 | fail); (try refine Xc_h ?_); (try (conv => whnf)); repeat (first | refine Hid.seq ?_ | (refine Hid.reg ?_; (conv => whnf)) | refine Hid.regD ?_ | refine Hid.cond rfl ?_ | refine Hid.block ?_ | refine Hid.loop ?_ | (refine Hid.exit ?_; (conv => whnf)) | (refine Hid.ret ?_; (conv => whnf)) | (refine Hid.skip ?_; (conv => whnf)) | (refine Hid.label ?_; (conv => whnf)) | refine Hid.range ?_)))
  refine SLoop.by Ty.mixed (fun i : Nat => q.length - i) (fun i => [(2, .str s), (3, .vp (eOp o)), (7, .str q), (8, .str s), (9, .bool true), (10, .int .i64 i)]) (fun _ => []) (fun i _ => i ≤ q.length) 0 ⟨by repeat (first | exact trivial | refine ⟨by first | trivial | exact Weak.refl _ | exact Weak.tok _ _ _ | exact Weak.of_eq (congrArg (AV.int _) (by omega)) | exact Weak.of_eq (congrArg AV.bool (by fail)) | exact Weak.nils _ _ (.inr rfl), ?_⟩), .none _, Nat.zero_le _⟩ ?_
  rintro i τ hi
  by_cases hlt : i < q.length
  · have gc : q[i]? = some q[i] := by simp [hlt]
    obtain ⟨g1, g2⟩ := hsg _ (List.getElem_mem hlt)
    generalize q[i] = c at *
    have d5 : decide ((c.toNat : Int) ≤ 32) = false := decide_eq_false (by omega)
    have d6 : decide ((126 : Int) < (c.toNat : Int)) = false := decide_eq_false (by omega)
    (try refine Xc_h ?_); (try (conv => whnf)); repeat (first | refine Hid.seq ?_ | (refine Hid.reg ?_; (conv => whnf)) | refine Hid.regD ?_ | refine Hid.cond rfl ?_ | refine Hid.block ?_ | refine Hid.loop ?_ | (refine Hid.exit ?_; (conv => whnf)) | (refine Hid.ret ?_; (conv => whnf)) | (refine Hid.skip ?_; (conv => whnf)) | (refine Hid.label ?_; (conv => whnf)) | refine Hid.range ?_)
    repeat' (((first | refine SIf.y Ty.mixed (by first | exact rfl | assumption | fail) ?_ | refine SIf.n Ty.mixed (by first | exact rfl | assumption | fail) ?_ | refine SCond.y (by first | exact rfl | assumption | fail) ?_ | refine SCond.n (by first | exact rfl | assumption | fail) ?_ | refine SPick.y (by first | exact rfl | assumption | fail) ?_ | refine SPick.n (by first | exact rfl | assumption | fail) ?_ | refine SPick.b ?_ | refine SPick.i ?_ | fail | refine SLoad.on 0 rfl ?_ | refine SLoad.on 1 rfl ?_ | refine SLoad.on 2 rfl ?_ | refine SLoad.on 3 rfl ?_ | refine SLoad.on 4 rfl ?_ | refine SLoad.on 5 rfl ?_ | refine SStore.on 0 rfl ?_ | refine SStore.on 1 rfl ?_ | refine SStore.on 2 rfl ?_ | refine SStore.on 3 rfl ?_ | refine SStore.on 4 rfl ?_ | refine SStore.on 5 rfl ?_ | refine SBox.f ?_ | refine SCall.p (by first | exact hk | exact hm | exact hq | exact hu) ?_ | fail | refine SApp.c rfl rfl (by first | assumption | exact Moves.more (by assumption) (by assumption) | fail) (by first | (simp only [length_aBytes, List.length_append, List.length_cons, List.length_nil, List.length_map, List.length_range]; omega) | omega | fail) fun tk1 σ1 hm => ?_ | refine SReg.t 0 [] (by decide +kernel) ?_ | refine And.intro (by first | omega | fail) ?_ | refine ⟨_, ⟨by first | omega | fail, by first | exact ⟨by omega, gc⟩ | exact gc⟩, ?_⟩ | refine ⟨_, toBytes_aBytes _, ?_⟩ | refine ⟨_, by repeat (first | exact toB_nil | apply toB_cons | apply toB_consC _ (by first | omega | fail)), ?_⟩ | refine ⟨_, IntWalk.i64_in _ (by first | omega | fail), ?_⟩ | refine ⟨_, wrap_u8 _, ?_⟩ | refine ⟨_, rfl, ?_⟩ | refine ⟨true, fun b1 hb1 => ?_⟩ | intro b1 hb1 | fail); (try refine Xc_h ?_); (try (conv => whnf)); repeat (first | refine Hid.seq ?_ | (refine Hid.reg ?_; (conv => whnf)) | refine Hid.regD ?_ | refine Hid.cond rfl ?_ | refine Hid.block ?_ | refine Hid.loop ?_ | (refine Hid.exit ?_; (conv => whnf)) | (refine Hid.ret ?_; (conv => whnf)) | (refine Hid.skip ?_; (conv => whnf)) | (refine Hid.label ?_; (conv => whnf)) | refine Hid.range ?_)))
    refine SIf.y Ty.mixed (decide_eq_true (by omega)) ?_
    (try refine Xc_h ?_); (try (conv => whnf)); repeat (first | refine Hid.seq ?_ | (refine Hid.reg ?_; (conv => whnf)) | refine Hid.regD ?_ | refine Hid.cond rfl ?_ | refine Hid.block ?_ | refine Hid.loop ?_ | (refine Hid.exit ?_; (conv => whnf)) | (refine Hid.ret ?_; (conv => whnf)) | (refine Hid.skip ?_; (conv => whnf)) | (refine Hid.label ?_; (conv => whnf)) | refine Hid.range ?_)
    repeat' (((first | refine SIf.y Ty.mixed (by first | exact rfl | assumption | fail) ?_ | refine SIf.n Ty.mixed (by first | exact rfl | assumption | fail) ?_ | refine SCond.y (by first | exact rfl | assumption | fail) ?_ | refine SCond.n (by first | exact rfl | assumption | fail) ?_ | refine SPick.y (by first | exact rfl | assumption | fail) ?_ | refine SPick.n (by first | exact rfl | assumption | fail) ?_ | refine SPick.b ?_ | refine SPick.i ?_ | fail | refine SLoad.on 0 rfl ?_ | refine SLoad.on 1 rfl ?_ | refine SLoad.on 2 rfl ?_ | refine SLoad.on 3 rfl ?_ | refine SLoad.on 4 rfl ?_ | refine SLoad.on 5 rfl ?_ | refine SStore.on 0 rfl ?_ | refine SStore.on 1 rfl ?_ | refine SStore.on 2 rfl ?_ | refine SStore.on 3 rfl ?_ | refine SStore.on 4 rfl ?_ | refine SStore.on 5 rfl ?_ | refine SBox.f ?_ | refine SCall.p (by first | exact hk | exact hm | exact hq | exact hu) ?_ | fail | refine SApp.c rfl rfl (by first | assumption | exact Moves.more (by assumption) (by assumption) | fail) (by first | (simp only [length_aBytes, List.length_append, List.length_cons, List.length_nil, List.length_map, List.length_range]; omega) | omega | fail) fun tk1 σ1 hm => ?_ | refine SReg.t 0 [] (by decide +kernel) ?_ | refine And.intro (by first | omega | fail) ?_ | refine ⟨_, ⟨by first | omega | fail, by first | exact ⟨by omega, gc⟩ | exact gc⟩, ?_⟩ | refine ⟨_, toBytes_aBytes _, ?_⟩ | refine ⟨_, by repeat (first | exact toB_nil | apply toB_cons | apply toB_consC _ (by first | omega | fail)), ?_⟩ | refine ⟨_, IntWalk.i64_in _ (by first | omega | fail), ?_⟩ | refine ⟨_, wrap_u8 _, ?_⟩ | refine ⟨_, rfl, ?_⟩ | refine ⟨true, fun b1 hb1 => ?_⟩ | intro b1 hb1 | fail); (try refine Xc_h ?_); (try (conv => whnf)); repeat (first | refine Hid.seq ?_ | (refine Hid.reg ?_; (conv => whnf)) | refine Hid.regD ?_ | refine Hid.cond rfl ?_ | refine Hid.block ?_ | refine Hid.loop ?_ | (refine Hid.exit ?_; (conv => whnf)) | (refine Hid.ret ?_; (conv => whnf)) | (refine Hid.skip ?_; (conv => whnf)) | (refine Hid.label ?_; (conv => whnf)) | refine Hid.range ?_)))
    exact ⟨i + 1, by omega, by repeat (first | exact trivial | refine ⟨by first | trivial | exact Weak.refl _ | exact Weak.tok _ _ _ | exact Weak.of_eq (congrArg (AV.int _) (by omega)) | exact Weak.of_eq (congrArg AV.bool (by fail)) | exact Weak.nils _ _ (.inr rfl), ?_⟩), .none _, hlt⟩
  · have hge : i = q.length := by omega
    subst hge
    clear hi hlt hsg hql
    rcases hpc with ⟨k1, k2, k3⟩ | k1
    · generalize printT o = pr at *
      obtain ⟨ps, pb⟩ := pr
      dsimp only at k1 k2 k3 hp
      subst k2
      have hpa := parse_any w0 hL ps (by omega)
      rw [k1] at hpa
      (try refine Xc_h ?_); (try (conv => whnf)); repeat (first | refine Hid.seq ?_ | (refine Hid.reg ?_; (conv => whnf)) | refine Hid.regD ?_ | refine Hid.cond rfl ?_ | refine Hid.block ?_ | refine Hid.loop ?_ | (refine Hid.exit ?_; (conv => whnf)) | (refine Hid.ret ?_; (conv => whnf)) | (refine Hid.skip ?_; (conv => whnf)) | (refine Hid.label ?_; (conv => whnf)) | refine Hid.range ?_)
      repeat' (((first | refine SIf.y Ty.mixed (by first | exact rfl | assumption | fail) ?_ | refine SIf.n Ty.mixed (by first | exact rfl | assumption | fail) ?_ | refine SCond.y (by first | exact rfl | assumption | fail) ?_ | refine SCond.n (by first | exact rfl | assumption | fail) ?_ | refine SPick.y (by first | exact rfl | assumption | fail) ?_ | refine SPick.n (by first | exact rfl | assumption | fail) ?_ | refine SPick.b ?_ | refine SPick.i ?_ | fail | refine SLoad.on 0 rfl ?_ | refine SLoad.on 1 rfl ?_ | refine SLoad.on 2 rfl ?_ | refine SLoad.on 3 rfl ?_ | refine SLoad.on 4 rfl ?_ | refine SLoad.on 5 rfl ?_ | refine SStore.on 0 rfl ?_ | refine SStore.on 1 rfl ?_ | refine SStore.on 2 rfl ?_ | refine SStore.on 3 rfl ?_ | refine SStore.on 4 rfl ?_ | refine SStore.on 5 rfl ?_ | refine SBox.f ?_ | refine SCall.p (by first | exact hk | exact hp | exact hpa | exact hsame) ?_ | fail | refine SApp.c rfl rfl (by first | assumption | exact Moves.more (by assumption) (by assumption) | fail) (by first | (simp only [length_aBytes, List.length_append, List.length_cons, List.length_nil, List.length_map, List.length_range]; omega) | omega | fail) fun tk1 σ1 hm => ?_ | refine SReg.t 0 [] (by decide +kernel) ?_ | refine And.intro (by first | omega | fail) ?_ | refine ⟨_, ⟨by first | omega | fail, by first | exact ⟨by omega, gc⟩ | exact gc⟩, ?_⟩ | refine ⟨_, toBytes_aBytes _, ?_⟩ | refine ⟨_, by repeat (first | exact toB_nil | apply toB_cons | apply toB_consC _ (by first | omega | fail)), ?_⟩ | refine ⟨_, IntWalk.i64_in _ (by first | omega | fail), ?_⟩ | refine ⟨_, wrap_u8 _, ?_⟩ | refine ⟨_, rfl, ?_⟩ | refine ⟨true, fun b1 hb1 => ?_⟩ | intro b1 hb1 | fail); (try refine Xc_h ?_); (try (conv => whnf)); repeat (first | refine Hid.seq ?_ | (refine Hid.reg ?_; (conv => whnf)) | refine Hid.regD ?_ | refine Hid.cond rfl ?_ | refine Hid.block ?_ | refine Hid.loop ?_ | (refine Hid.exit ?_; (conv => whnf)) | (refine Hid.ret ?_; (conv => whnf)) | (refine Hid.skip ?_; (conv => whnf)) | (refine Hid.label ?_; (conv => whnf)) | refine Hid.range ?_)))
      refine SIf.n Ty.mixed (decide_eq_false (by omega)) ?_
      (try refine Xc_h ?_); (try (conv => whnf)); repeat (first | refine Hid.seq ?_ | (refine Hid.reg ?_; (conv => whnf)) | refine Hid.regD ?_ | refine Hid.cond rfl ?_ | refine Hid.block ?_ | refine Hid.loop ?_ | (refine Hid.exit ?_; (conv => whnf)) | (refine Hid.ret ?_; (conv => whnf)) | (refine Hid.skip ?_; (conv => whnf)) | (refine Hid.label ?_; (conv => whnf)) | refine Hid.range ?_)
      repeat' (((first | refine SIf.y Ty.mixed (by first | exact rfl | assumption | fail) ?_ | refine SIf.n Ty.mixed (by first | exact rfl | assumption | fail) ?_ | refine SCond.y (by first | exact rfl | assumption | fail) ?_ | refine SCond.n (by first | exact rfl | assumption | fail) ?_ | refine SPick.y (by first | exact rfl | assumption | fail) ?_ | refine SPick.n (by first | exact rfl | assumption | fail) ?_ | refine SPick.b ?_ | refine SPick.i ?_ | fail | refine SLoad.on 0 rfl ?_ | refine SLoad.on 1 rfl ?_ | refine SLoad.on 2 rfl ?_ | refine SLoad.on 3 rfl ?_ | refine SLoad.on 4 rfl ?_ | refine SLoad.on 5 rfl ?_ | refine SStore.on 0 rfl ?_ | refine SStore.on 1 rfl ?_ | refine SStore.on 2 rfl ?_ | refine SStore.on 3 rfl ?_ | refine SStore.on 4 rfl ?_ | refine SStore.on 5 rfl ?_ | refine SBox.f ?_ | refine SCall.p (by first | exact hk | exact hp | exact hpa | exact hsame) ?_ | fail | refine SApp.c rfl rfl (by first | assumption | exact Moves.more (by assumption) (by assumption) | fail) (by first | (simp only [length_aBytes, List.length_append, List.length_cons, List.length_nil, List.length_map, List.length_range]; omega) | omega | fail) fun tk1 σ1 hm => ?_ | refine SReg.t 0 [] (by decide +kernel) ?_ | refine And.intro (by first | omega | fail) ?_ | refine ⟨_, ⟨by first | omega | fail, by first | exact ⟨by omega, gc⟩ | exact gc⟩, ?_⟩ | refine ⟨_, toBytes_aBytes _, ?_⟩ | refine ⟨_, by repeat (first | exact toB_nil | apply toB_cons | apply toB_consC _ (by first | omega | fail)), ?_⟩ | refine ⟨_, IntWalk.i64_in _ (by first | omega | fail), ?_⟩ | refine ⟨_, wrap_u8 _, ?_⟩ | refine ⟨_, rfl, ?_⟩ | refine ⟨true, fun b1 hb1 => ?_⟩ | intro b1 hb1 | fail); (try refine Xc_h ?_); (try (conv => whnf)); repeat (first | refine Hid.seq ?_ | (refine Hid.reg ?_; (conv => whnf)) | refine Hid.regD ?_ | refine Hid.cond rfl ?_ | refine Hid.block ?_ | refine Hid.loop ?_ | (refine Hid.exit ?_; (conv => whnf)) | (refine Hid.ret ?_; (conv => whnf)) | (refine Hid.skip ?_; (conv => whnf)) | (refine Hid.label ?_; (conv => whnf)) | refine Hid.range ?_)))
      exact .w rfl
    · rw [k1] at hp
      have hpa := parse_any w0 hL [] (by simp)
      generalize parseT [] = pr at *
      (try refine Xc_h ?_); (try (conv => whnf)); repeat (first | refine Hid.seq ?_ | (refine Hid.reg ?_; (conv => whnf)) | refine Hid.regD ?_ | refine Hid.cond rfl ?_ | refine Hid.block ?_ | refine Hid.loop ?_ | (refine Hid.exit ?_; (conv => whnf)) | (refine Hid.ret ?_; (conv => whnf)) | (refine Hid.skip ?_; (conv => whnf)) | (refine Hid.label ?_; (conv => whnf)) | refine Hid.range ?_)
      repeat' (((first | refine SIf.y Ty.mixed (by first | exact rfl | assumption | fail) ?_ | refine SIf.n Ty.mixed (by first | exact rfl | assumption | fail) ?_ | refine SCond.y (by first | exact rfl | assumption | fail) ?_ | refine SCond.n (by first | exact rfl | assumption | fail) ?_ | refine SPick.y (by first | exact rfl | assumption | fail) ?_ | refine SPick.n (by first | exact rfl | assumption | fail) ?_ | refine SPick.b ?_ | refine SPick.i ?_ | fail | refine SLoad.on 0 rfl ?_ | refine SLoad.on 1 rfl ?_ | refine SLoad.on 2 rfl ?_ | refine SLoad.on 3 rfl ?_ | refine SLoad.on 4 rfl ?_ | refine SLoad.on 5 rfl ?_ | refine SStore.on 0 rfl ?_ | refine SStore.on 1 rfl ?_ | refine SStore.on 2 rfl ?_ | refine SStore.on 3 rfl ?_ | refine SStore.on 4 rfl ?_ | refine SStore.on 5 rfl ?_ | refine SBox.f ?_ | refine SCall.p (by first | exact hk | exact hp | exact hpa | exact hsame) ?_ | fail | refine SApp.c rfl rfl (by first | assumption | exact Moves.more (by assumption) (by assumption) | fail) (by first | (simp only [length_aBytes, List.length_append, List.length_cons, List.length_nil, List.length_map, List.length_range]; omega) | omega | fail) fun tk1 σ1 hm => ?_ | refine SReg.t 0 [] (by decide +kernel) ?_ | refine And.intro (by first | omega | fail) ?_ | refine ⟨_, ⟨by first | omega | fail, by first | exact ⟨by omega, gc⟩ | exact gc⟩, ?_⟩ | refine ⟨_, toBytes_aBytes _, ?_⟩ | refine ⟨_, by repeat (first | exact toB_nil | apply toB_cons | apply toB_consC _ (by first | omega | fail)), ?_⟩ | refine ⟨_, IntWalk.i64_in _ (by first | omega | fail), ?_⟩ | refine ⟨_, wrap_u8 _, ?_⟩ | refine ⟨_, rfl, ?_⟩ | refine ⟨true, fun b1 hb1 => ?_⟩ | intro b1 hb1 | fail); (try refine Xc_h ?_); (try (conv => whnf)); repeat (first | refine Hid.seq ?_ | (refine Hid.reg ?_; (conv => whnf)) | refine Hid.regD ?_ | refine Hid.cond rfl ?_ | refine Hid.block ?_ | refine Hid.loop ?_ | (refine Hid.exit ?_; (conv => whnf)) | (refine Hid.ret ?_; (conv => whnf)) | (refine Hid.skip ?_; (conv => whnf)) | (refine Hid.label ?_; (conv => whnf)) | refine Hid.range ?_)))
      refine SIf.n Ty.mixed (decide_eq_false (by omega)) ?_
      (try refine Xc_h ?_); (try (conv => whnf)); repeat (first | refine Hid.seq ?_ | (refine Hid.reg ?_; (conv => whnf)) | refine Hid.regD ?_ | refine Hid.cond rfl ?_ | refine Hid.block ?_ | refine Hid.loop ?_ | (refine Hid.exit ?_; (conv => whnf)) | (refine Hid.ret ?_; (conv => whnf)) | (refine Hid.skip ?_; (conv => whnf)) | (refine Hid.label ?_; (conv => whnf)) | refine Hid.range ?_)
      repeat' (((first | refine SIf.y Ty.mixed (by first | exact rfl | assumption | fail) ?_ | refine SIf.n Ty.mixed (by first | exact rfl | assumption | fail) ?_ | refine SCond.y (by first | exact rfl | assumption | fail) ?_ | refine SCond.n (by first | exact rfl | assumption | fail) ?_ | refine SPick.y (by first | exact rfl | assumption | fail) ?_ | refine SPick.n (by first | exact rfl | assumption | fail) ?_ | refine SPick.b ?_ | refine SPick.i ?_ | fail | refine SLoad.on 0 rfl ?_ | refine SLoad.on 1 rfl ?_ | refine SLoad.on 2 rfl ?_ | refine SLoad.on 3 rfl ?_ | refine SLoad.on 4 rfl ?_ | refine SLoad.on 5 rfl ?_ | refine SStore.on 0 rfl ?_ | refine SStore.on 1 rfl ?_ | refine SStore.on 2 rfl ?_ | refine SStore.on 3 rfl ?_ | refine SStore.on 4 rfl ?_ | refine SStore.on 5 rfl ?_ | refine SBox.f ?_ | refine SCall.p (by first | exact hk | exact hp | exact hpa | exact hsame) ?_ | fail | refine SApp.c rfl rfl (by first | assumption | exact Moves.more (by assumption) (by assumption) | fail) (by first | (simp only [length_aBytes, List.length_append, List.length_cons, List.length_nil, List.length_map, List.length_range]; omega) | omega | fail) fun tk1 σ1 hm => ?_ | refine SReg.t 0 [] (by decide +kernel) ?_ | refine And.intro (by first | omega | fail) ?_ | refine ⟨_, ⟨by first | omega | fail, by first | exact ⟨by omega, gc⟩ | exact gc⟩, ?_⟩ | refine ⟨_, toBytes_aBytes _, ?_⟩ | refine ⟨_, by repeat (first | exact toB_nil | apply toB_cons | apply toB_consC _ (by first | omega | fail)), ?_⟩ | refine ⟨_, IntWalk.i64_in _ (by first | omega | fail), ?_⟩ | refine ⟨_, wrap_u8 _, ?_⟩ | refine ⟨_, rfl, ?_⟩ | refine ⟨true, fun b1 hb1 => ?_⟩ | intro b1 hb1 | fail); (try refine Xc_h ?_); (try (conv => whnf)); repeat (first | refine Hid.seq ?_ | (refine Hid.reg ?_; (conv => whnf)) | refine Hid.regD ?_ | refine Hid.cond rfl ?_ | refine Hid.block ?_ | refine Hid.loop ?_ | (refine Hid.exit ?_; (conv => whnf)) | (refine Hid.ret ?_; (conv => whnf)) | (refine Hid.skip ?_; (conv => whnf)) | (refine Hid.label ?_; (conv => whnf)) | refine Hid.range ?_)))
      exact .w (by simp)
end Go.Proofs.YtjcikceophcooaaDoor
end
