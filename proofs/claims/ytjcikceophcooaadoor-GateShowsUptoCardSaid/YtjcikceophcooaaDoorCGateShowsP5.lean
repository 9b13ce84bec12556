/- The law GateShows returns true for every input, and its arguments read as before: the tied card. No conditions. This is part 5 of 6 of its proof; the parts are read in order. No conditions. -/
import Derived.Test.YtjcikceophcooaaDoorCGateShowsP4
import Derived.Test.YtjcikceophcooaaDoorRows
import Derived.ProofKit
section
set_option linter.unusedVariables false
set_option linter.unusedSimpArgs false
set_option maxRecDepth 100000
set_option maxHeartbeats 4000000
namespace Go.Proofs.YtjcikceophcooaaDoor
open Go.Al Go.RowKit
def fldV : List Nat → AV
  | [] => .nils
  | l => .slc 1 (l.map fun f : Nat => AV.int .i64 ((f : Nat) : Int)) .full
def fV (p : List UInt8 × List Nat) : AV := .agg [.str p.1, fldV p.2]
theorem forms_any (w0 : Base) : CallP Tryd.prog w0 35 [] (.slc 2 (formsL.map fV) .full) := by
  refine CallP.h Ty.tok Ty.mixed Tryd.func35 rfl Tryd.ntmps35 rfl (by simp) (by decide +kernel) fun σ => ?_
  (conv => whnf); refine Hid.seq ?_; refine Hid.reg ?_; (conv => whnf); refine Hid.seq ?_; refine Hid.reg ?_; (conv => whnf); refine Hid.seq ?_; refine Hid.reg ?_; (conv => whnf); refine Hid.seq ?_; refine Hid.reg ?_; (conv => whnf); refine Hid.ret ?_; (conv => whnf)
  skip
  exact .p (.refl _) rfl
def parseT (line : List UInt8) : OpV × Nat := match pcs 32 line with
  | w0 :: ws => parseAt formsL 0 w0 ws
  | [] => (op0, 70)
theorem pcs_mem_len32 : ∀ (l : List UInt8), ∀ p ∈ pcs 32 l, p.length ≤ l.length
  | [], p, h => by simp [pcs] at h; subst h; simp
  | b :: l, p, h => by
    have ih := pcs_mem_len32 l
    rw [pcs] at h
    split at h
    · rcases List.mem_cons.1 h with rfl | h
      · simp
      · have := ih p h; simp; omega
    · split at h
      · rename_i q qs e
        rcases List.mem_cons.1 h with rfl | h
        · have := ih q (by rw [e]; simp); simp; omega
        · have := ih p (by rw [e]; simp [h]); simp; omega
      · simp at h; subst h; simp
theorem strs_len8 (l : List (List UInt8)) : (strs l).length = l.length := by simp [strs]
theorem weak_opK (k : Int) : Weak (eOp (opK k)) (.agg (oC (opK k) .nils)) :=
  .agg (.cons (.refl _) (.cons (.refl _) (.cons (.refl _) (.cons (.refl _) (.cons (.refl _) (.cons (.refl _) (.cons (.refl _) (.cons (.refl _) (.cons (.refl _) (.cons (.nils 1 .no (.inl rfl)) .nil)))))))))) (by simp [oC, AV.one, dB])
theorem weak_cells (k : Int) : WeakL (oC (opK k) (dB [])) (oC (opK k) .nils) :=
  .cons (.refl _) (.cons (.refl _) (.cons (.refl _) (.cons (.refl _) (.cons (.refl _) (.cons (.refl _) (.cons (.refl _) (.cons (.refl _) (.cons (.refl _) (.cons (.nils 1 .no (.inl rfl)) .nil)))))))))
theorem forms_fld : ∀ p ∈ formsL, p.2.length ≤ 5 ∧ ∀ f ∈ p.2, f < 9 := by decide
theorem parse_any (w0 : Base) (hL : Laid w0) (line : List UInt8) (hs : line.length ≤ 1000000000) : CallP Tryd.prog w0 21 [.str line] (.tup [eOp (parseT line).1, .int .u16 (parseT line).2]) := fun σ => by
  have hsp := split_any w0 line 32 (by omega)
  have hml := fun p hp => Nat.le_trans (pcs_mem_len32 line p hp) hs
  have hpl := pcs_len 32 line
  rw [parseT]
  cases hp : pcs 32 line with
  | nil => exact absurd hp (pcs_ne 32 line)
  | cons x ws =>
  rw [hp] at hsp hml hpl
  dsimp only
  have hfo := forms_any w0
  have hfl := forms_fld
  have hf20 : formsL.length = 20 := rfl
  generalize formsL = fl at *
  refine CallW.h (B := []) Ty.tok Ty.mixed Tryd.func21 rfl Tryd.ntmps21 rfl (by simp) (by decide +kernel) (.nil σ) ?_; (conv => whnf); refine Hid.seq ?_; refine Hid.reg ?_; (conv => whnf); intro b2 hb2; (conv => whnf); refine Hid.seq ?_; refine Hid.reg ?_; (conv => whnf); refine SCall.p (by exact hsp) ?_; (conv => whnf); refine Hid.seq ?_; refine Hid.seq ?_
  refine Hid.reg ?_; (conv => whnf); refine SCall.p (by exact hfo) ?_; (conv => whnf); refine Hid.block ?_; refine Hid.loop ?_
  have hle0 : St.Le σ (σ.setBox b2 (oC op0 .nils)) := le_new (.refl _) hb2
  have hln : (fl.map fV).length = fl.length := by simp
  have hws := strs_len8 (x :: ws)
  refine SLoop.by Ty.mixed (fun i : Nat => fl.length - i) (fun i => [(2, .ptr b2 0), (4, .slc 1 (strs (x :: ws)) .no), (12, .slc 2 (fl.map fV) .full), (13, .int .i64 (fl.map fV).length), (14, .int .i64 i)]) (fun _ => [(b2, oC op0 .nils)]) (fun i τ => i ≤ fl.length ∧ parseAt (fl.drop i) i x ws = parseAt fl 0 x ws ∧ St.Le σ τ) 0 ⟨by repeat (first | exact trivial | refine ⟨by first | trivial | exact Weak.refl _ | exact Weak.tok _ _ _ | exact Weak.of_eq (congrArg (AV.int _) (by omega)) | exact Weak.of_eq (congrArg AV.bool (by fail)) | exact Weak.nils _ _ (.inr rfl), ?_⟩), .refl _, Nat.zero_le _, rfl, hle0⟩ ?_
  rintro i τ ⟨hi, hd, hle⟩
  by_cases hlt : i < fl.length
  · have ga : (fl.map fV)[i]? = some (fV fl[i]) := by simp [hlt]
    have hfn := hfl _ (List.getElem_mem hlt)
    rw [List.drop_eq_getElem_cons hlt] at hd
    generalize fl[i] = q at *
    obtain ⟨n, fs⟩ := q
    rw [parseAt] at hd
    dsimp only at hfn
    have hl7 : ((x :: ws).length : Int) = ws.length + 1 := by simp
    cases fs with
    | nil =>
      refine Xc_h ?_; (conv => whnf); refine Hid.seq ?_; refine Hid.reg ?_; (conv => whnf); refine Hid.seq ?_; refine Hid.cond rfl ?_
      skip
      refine SIf.y Ty.mixed (decide_eq_true (by rw [hln]; omega)) ?_; refine Xc_h ?_; (conv => whnf); refine Hid.skip ?_; (conv => whnf); refine Hid.seq ?_; refine Hid.seq ?_; refine Hid.reg ?_; (conv => whnf)
      refine ⟨_, ⟨by first | omega | (rw [hln]; omega) | (rw [hws]; simp; omega) | fail, by first | exact ga | exact rfl⟩, ?_⟩
      (conv => whnf); intro b6 hb6; (conv => whnf); refine SStore.on 0 rfl ?_; (conv => whnf); refine Hid.seq ?_; refine Hid.seq ?_; refine Hid.regD ?_; refine SReg.t 1 [] (by decide +kernel) ?_; (conv => whnf); refine SLoad.on 0 rfl ?_; (conv => whnf)
      refine ⟨_, ⟨by first | omega | (rw [hln]; omega) | (rw [hws]; simp; omega) | fail, by first | exact ga | exact rfl⟩, ?_⟩
      (conv => whnf); refine Hid.cond rfl ?_
      by_cases hne : n = x
      · refine SIf.n Ty.mixed (by simp [hne]) ?_
        rw [if_pos hne] at hd
        refine Xc_h ?_; (conv => whnf); refine Hid.skip ?_; (conv => whnf); refine Hid.seq ?_; refine Hid.reg ?_; (conv => whnf); refine ⟨_, IntWalk.i64_in _ (by omega), ?_⟩; (conv => whnf); intro b7 hb7; (conv => whnf); refine SStore.on 0 rfl ?_; (conv => whnf); refine Hid.seq ?_; refine Hid.seq ?_; refine Hid.reg ?_; (conv => whnf); refine SLoad.on 1 rfl ?_; (conv => whnf)
        refine ⟨_, IntWalk.i64_in _ (by omega), ?_⟩; (conv => whnf); refine Hid.cond rfl ?_
        by_cases hlen : ws.length = ([] : List Nat).length
        · refine SIf.n Ty.mixed (by rw [hws, hl7, hlen]; rfl) ?_
          rw [if_pos hlen, fillR] at hd
          refine Xc_h ?_; (conv => whnf); refine Hid.skip ?_; (conv => whnf); refine Hid.seq ?_; refine Hid.seq ?_; refine Hid.reg ?_; (conv => whnf); refine SLoad.on 1 rfl ?_; (conv => whnf); refine Hid.block ?_; refine Hid.loop ?_
          refine SLoop.by Ty.mixed (fun _ : Unit => 0) (fun _ => [(2, .ptr b2 0), (7, .ptr b7 0), (38, .int .i64 0), (39, .int .i64 0)]) (fun _ => [(b7, oC (opK ((i : Int) + 1)) .nils), (b2, oC op0 .nils)]) (fun _ s => St.Le σ s) () ⟨by repeat (first | exact trivial | refine ⟨by first | trivial | exact Weak.refl _ | exact Weak.tok _ _ _ | exact Weak.of_eq (congrArg (AV.int _) (by omega)) | exact Weak.of_eq (congrArg AV.bool (by fail)) | exact Weak.nils _ _ (.inr rfl), ?_⟩), ?_, le_new2 (le_new2 hle hb6) hb7⟩ ?_
          · exact .keep (.drop (.keep .nil))
          rintro _ s hls; refine Xc_h ?_; (conv => whnf); refine Hid.seq ?_; refine Hid.reg ?_; (conv => whnf); refine Hid.seq ?_; refine Hid.cond rfl ?_; refine SIf.n Ty.mixed (by exact rfl) ?_; refine Xc_h ?_; (conv => whnf); refine Hid.exit ?_; (conv => whnf); refine Hid.seq ?_; refine Hid.reg ?_; (conv => whnf); refine SLoad.on 0 rfl ?_; (conv => whnf); refine SStore.on 1 rfl ?_; (conv => whnf)
          refine Hid.ret ?_; (conv => whnf); refine SLoad.on 1 rfl ?_; (conv => whnf)
          rw [← hd]
          exact .v (le_setBox hls hb2) (.tup (.cons (weak_opK _) (.cons (.refl _) .nil)))
        · refine SIf.y Ty.mixed (by rw [hws, hl7, decide_eq_false (by simp only [List.length_nil] at hlen; omega)]; rfl) ?_
          rw [if_neg hlen] at hd
          refine Xc_h ?_; (conv => whnf); refine Hid.seq ?_; refine Hid.reg ?_; (conv => whnf); refine SStore.on 2 rfl ?_; (conv => whnf); refine Hid.ret ?_; (conv => whnf); refine SLoad.on 2 rfl ?_; (conv => whnf)
          rw [← hd]
          exact .v (le_setBox (le_new2 (le_new2 hle hb6) hb7) hb2) (.tup (.cons (weak_opK 0) (.cons (.refl _) .nil)))
      · refine SIf.y Ty.mixed (by simp [hne]) ?_
        rw [if_neg hne] at hd
        refine Xc_h ?_; (conv => whnf); refine Hid.exit ?_; (conv => whnf); refine Hid.reg ?_; (conv => whnf); refine ⟨_, IntWalk.i64_in _ (by omega), ?_⟩; (conv => whnf)
        exact ⟨i + 1, by omega, by repeat (first | exact trivial | refine ⟨by first | trivial | exact Weak.refl _ | exact Weak.tok _ _ _ | exact Weak.of_eq (congrArg (AV.int _) (by omega)) | exact Weak.of_eq (congrArg AV.bool (by fail)) | exact Weak.nils _ _ (.inr rfl), ?_⟩), .drop (.refl _), hlt, hd, le_new2 hle hb6⟩
    | cons f fs0 =>
      obtain ⟨fs, hfs⟩ : ∃ fs, fs = f :: fs0 := ⟨_, rfl⟩
      have hfv : fV (n, f :: fs0) = .agg [.str n, .slc 1 (fs.map fun f : Nat => AV.int .i64 ((f : Nat) : Int)) .full] := by rw [hfs]; rfl
      rw [hfv] at ga
      rw [← hfs] at hd hfn
      have hfsl : (fs.map fun f : Nat => AV.int .i64 ((f : Nat) : Int)).length = fs.length := by simp
      obtain ⟨hf5, hfn⟩ := hfn
      clear hfs hfv; refine Xc_h ?_; (conv => whnf); refine Hid.seq ?_; refine Hid.reg ?_; (conv => whnf); refine Hid.seq ?_; refine Hid.cond rfl ?_
      skip
      refine SIf.y Ty.mixed (decide_eq_true (by rw [hln]; omega)) ?_; refine Xc_h ?_; (conv => whnf); refine Hid.skip ?_; (conv => whnf); refine Hid.seq ?_; refine Hid.seq ?_; refine Hid.reg ?_; (conv => whnf)
      refine ⟨_, ⟨by first | omega | (rw [hln]; omega) | (rw [hws]; simp; omega) | (rw [hfsl]; omega) | fail, by first | exact ga | exact rfl⟩, ?_⟩
      (conv => whnf); intro b6 hb6; (conv => whnf); refine SStore.on 0 rfl ?_; (conv => whnf); refine Hid.seq ?_; refine Hid.seq ?_; refine Hid.regD ?_; refine SReg.t 1 [] (by decide +kernel) ?_; (conv => whnf); refine SLoad.on 0 rfl ?_; (conv => whnf)
      refine ⟨_, ⟨by first | omega | (rw [hln]; omega) | (rw [hws]; simp; omega) | (rw [hfsl]; omega) | fail, by first | exact ga | exact rfl⟩, ?_⟩
      (conv => whnf); refine Hid.cond rfl ?_
      by_cases hne : n = x
      · refine SIf.n Ty.mixed (by simp [hne]) ?_
        rw [if_pos hne] at hd
        refine Xc_h ?_; (conv => whnf); refine Hid.skip ?_; (conv => whnf); refine Hid.seq ?_; refine Hid.reg ?_; (conv => whnf); refine ⟨_, IntWalk.i64_in _ (by omega), ?_⟩; (conv => whnf); intro b7 hb7; (conv => whnf); refine SStore.on 0 rfl ?_; (conv => whnf); refine Hid.seq ?_; refine Hid.seq ?_; refine Hid.reg ?_; (conv => whnf); refine SLoad.on 1 rfl ?_; (conv => whnf)
        refine ⟨_, IntWalk.i64_in _ (by omega), ?_⟩; (conv => whnf); refine Hid.cond rfl ?_
        by_cases hlen : ws.length = fs.length
        · refine SIf.n Ty.mixed (by rw [hws, hl7, hfsl, decide_eq_true (by omega)]; rfl) ?_
          rw [if_pos hlen] at hd
          refine Xc_h ?_; (conv => whnf); refine Hid.skip ?_; (conv => whnf); refine Hid.seq ?_; refine Hid.seq ?_; refine Hid.reg ?_; (conv => whnf); refine SLoad.on 1 rfl ?_; (conv => whnf); refine Hid.block ?_; refine Hid.loop ?_
          have hle7 : St.Le σ ((((τ.setBox b6 [.str [], .nils]).setBox b6 [.str n, .slc 1 (fs.map fun f : Nat => AV.int .i64 ((f : Nat) : Int)) .full]).setBox b7 (oC op0 .nils)).setBox b7 (oC (opK ((i : Int) + 1)) .nils)) := le_new2 (le_new2 hle hb6) hb7
          refine SLoop.weakBox 0 rfl (weak_cells ((i : Int) + 1)) ?_
          refine SLoop.by Ty.mixed (fun ((j, o) : Nat × OpV) => fs.length - j) (fun (j, o) => [(2, .ptr b2 0), (4, .slc 1 (strs (x :: ws)) .no), (7, .ptr b7 0), (37, .slc 1 (fs.map fun f : Nat => AV.int .i64 ((f : Nat) : Int)) .full), (38, .int .i64 (fs.map fun f : Nat => AV.int .i64 ((f : Nat) : Int)).length), (39, .int .i64 j)]) (fun (j, o) => [(b7, oC o (dB o.data)), (b2, oC op0 .nils)]) (fun (j, o) s => j ≤ fs.length ∧ fillR o (fs.drop j) (ws.drop j) = fillR (opK ((i : Int) + 1)) fs ws ∧ St.Le σ s) (0, opK ((i : Int) + 1)) ⟨by repeat (first | exact trivial | refine ⟨by first | trivial | exact Weak.refl _ | exact Weak.tok _ _ _ | exact Weak.of_eq (congrArg (AV.int _) (by omega)) | exact Weak.of_eq (congrArg AV.bool (by fail)) | exact Weak.nils _ _ (.inr rfl), ?_⟩), ?_, by simp, rfl, le_setBox hle7 (le_none (le_new2 hle hb6) hb7)⟩ ?_
          · exact .keep (.drop (.keep .nil))
          rintro ⟨j, o⟩ s ⟨hj, hf, hls⟩
          dsimp only at hj hf hls ⊢
          by_cases hjl : j < fs.length
          · have gf : (fs.map fun f : Nat => AV.int .i64 ((f : Nat) : Int))[j]? = some (.int .i64 fs[j]) := by simp [hjl]
            have hjw : j < ws.length := by omega
            have gw : (strs (x :: ws))[((j : Int) + 1).toNat]? = some (.str ws[j]) := by
              rw [show ((j : Int) + 1).toNat = j + 1 by omega]; simp [strs, hjw]
            have hf9 := hfn _ (List.getElem_mem hjl)
            have hw9 := hml ws[j] (by simp)
            rw [List.drop_eq_getElem_cons hjl, List.drop_eq_getElem_cons hjw, fillR] at hf
            generalize fs[j] = f9 at *
            generalize ws[j] = w9 at *
            refine Xc_h ?_; (conv => whnf); refine Hid.seq ?_; refine Hid.reg ?_; (conv => whnf); refine Hid.seq ?_; refine Hid.cond rfl ?_
            skip
            refine SIf.y Ty.mixed (decide_eq_true (by rw [hfsl]; omega)) ?_; refine Xc_h ?_; (conv => whnf); refine Hid.skip ?_; (conv => whnf); refine Hid.seq ?_; refine Hid.seq ?_; refine Hid.reg ?_; (conv => whnf)
            refine ⟨_, ⟨by first | omega | (rw [hln]; omega) | (rw [hws]; simp; omega) | (rw [hfsl]; omega) | fail, by first | exact gf | exact ⟨by omega, gw⟩ | exact gw⟩, ?_⟩
            (conv => whnf); refine Hid.seq ?_; refine Hid.regD ?_; refine SReg.d [0, 1, 2, 3, 4, 5, 6, 7, 8] [0, 0, 0, 0, 0, 0, 0, 2, 0] (by decide +kernel) ?_; (conv => whnf); (conv => whnf); refine SCall.p (by exact place_any w0 b7 f9 hf9) ?_; (conv => whnf); refine ⟨_, IntWalk.i64_in _ (by omega), ?_⟩; (conv => whnf)
            refine ⟨_, ⟨by first | omega | (rw [hln]; omega) | (rw [hws]; simp; omega) | (rw [hfsl]; omega) | fail, by first | exact gf | exact ⟨by omega, gw⟩ | exact gw⟩, ?_⟩
            (conv => whnf); refine SCall.wK (fun hK => take_any w0 hL _ b7 f9 hf9 o w9 (by omega) (hK.get (i := 0) rfl)) rfl ?_; rintro r s1 ⟨rfl, rfl⟩ hB; refine ⟨_, hB.set (i := 0) rfl, ?_⟩; (conv => whnf); refine Hid.cond rfl ?_
            skip
            cases hk : (setF o f9 w9).2 with
            | true =>
              refine SIf.n Ty.mixed rfl ?_; refine Xc_h ?_; (conv => whnf); refine Hid.skip ?_; (conv => whnf); refine Hid.reg ?_; (conv => whnf); refine ⟨_, IntWalk.i64_in _ (by omega), ?_⟩; (conv => whnf)
              rw [if_pos hk] at hf
              exact ⟨(j + 1, (setF o f9 w9).1), by show fs.length - (j + 1) < fs.length - j; omega, by repeat (first | exact trivial | refine ⟨by first | trivial | exact Weak.refl _ | exact Weak.tok _ _ _ | exact Weak.of_eq (congrArg (AV.int _) (by omega)) | exact Weak.of_eq (congrArg AV.bool (by fail)) | exact Weak.nils _ _ (.inr rfl), ?_⟩), .refl _, hjl, hf, le_setBox hls (le_none (le_new2 hle hb6) hb7)⟩
            | false =>
              refine SIf.y Ty.mixed rfl ?_; refine Xc_h ?_; (conv => whnf); refine Hid.seq ?_; refine Hid.reg ?_; (conv => whnf); refine SStore.on 1 rfl ?_; (conv => whnf); refine Hid.ret ?_; (conv => whnf); refine SLoad.on 1 rfl ?_; (conv => whnf)
              rw [if_neg (by rw [hk]; simp)] at hf
              rw [← hd, ← hf]
              exact .v (le_setBox (le_setBox hls (le_none (le_new2 hle hb6) hb7)) hb2) (.tup (.cons (weak_opK 0) (.cons (.refl _) .nil)))
          · have hge : j = fs.length := by omega
            subst hge
            rw [List.drop_length, fillR] at hf
            refine Xc_h ?_; (conv => whnf); refine Hid.seq ?_; refine Hid.reg ?_; (conv => whnf); refine Hid.seq ?_; refine Hid.cond rfl ?_
            skip
            refine SIf.n Ty.mixed (decide_eq_false (by rw [hfsl]; omega)) ?_; refine Xc_h ?_; (conv => whnf); refine Hid.exit ?_; (conv => whnf); refine Hid.seq ?_; refine Hid.reg ?_; (conv => whnf); refine SLoad.on 0 rfl ?_; (conv => whnf); refine SStore.on 1 rfl ?_; (conv => whnf); refine Hid.ret ?_; (conv => whnf); refine SLoad.on 1 rfl ?_; (conv => whnf)
            rw [← hd, ← hf]
            exact .p (le_setBox hls hb2) rfl
        · refine SIf.y Ty.mixed (by rw [hws, hl7, hfsl, decide_eq_false (by omega)]; rfl) ?_
          rw [if_neg hlen] at hd
          refine Xc_h ?_; (conv => whnf); refine Hid.seq ?_; refine Hid.reg ?_; (conv => whnf); refine SStore.on 2 rfl ?_; (conv => whnf); refine Hid.ret ?_; (conv => whnf); refine SLoad.on 2 rfl ?_; (conv => whnf)
          rw [← hd]
          exact .v (le_setBox (le_new2 (le_new2 hle hb6) hb7) hb2) (.tup (.cons (weak_opK 0) (.cons (.refl _) .nil)))
      · refine SIf.y Ty.mixed (by simp [hne]) ?_
        rw [if_neg hne] at hd
        refine Xc_h ?_; (conv => whnf); refine Hid.exit ?_; (conv => whnf); refine Hid.reg ?_; (conv => whnf); refine ⟨_, IntWalk.i64_in _ (by omega), ?_⟩; (conv => whnf)
        exact ⟨i + 1, by omega, by repeat (first | exact trivial | refine ⟨by first | trivial | exact Weak.refl _ | exact Weak.tok _ _ _ | exact Weak.of_eq (congrArg (AV.int _) (by omega)) | exact Weak.of_eq (congrArg AV.bool (by fail)) | exact Weak.nils _ _ (.inr rfl), ?_⟩), .drop (.refl _), hlt, hd, le_new2 hle hb6⟩
  · have hge : i = fl.length := by omega
    subst hge
    rw [List.drop_length, parseAt] at hd
    refine Xc_h ?_; (conv => whnf); refine Hid.seq ?_; refine Hid.reg ?_; (conv => whnf); refine Hid.seq ?_; refine Hid.cond rfl ?_
    skip
    refine SIf.n Ty.mixed (decide_eq_false (by rw [hln]; omega)) ?_; refine Xc_h ?_; (conv => whnf); refine Hid.exit ?_; (conv => whnf); refine Hid.seq ?_; refine Hid.reg ?_; (conv => whnf); refine SStore.on 0 rfl ?_; (conv => whnf); refine Hid.ret ?_; (conv => whnf); refine SLoad.on 0 rfl ?_; (conv => whnf)
    rw [← hd]
    exact .v (le_setBox hle hb2) (.tup (.cons (weak_opK 0) (.cons (.refl _) .nil)))
end Go.Proofs.YtjcikceophcooaaDoor
end
section
set_option linter.unusedVariables false
set_option linter.unusedSimpArgs false
set_option maxRecDepth 100000
set_option maxHeartbeats 4000000
namespace Go.Proofs.YtjcikceophcooaaDoor
open Go.Al Go.RowKit
structure RepV where
  err : Int
  n : Int
  list : List Msg
  data : List UInt8
def eRep (r : RepV) : AV := .agg [.int .u16 r.err, .int .i64 r.n, .slc 8 (r.list.map eMsg) .no, .slc 1 (aBytes r.data) .no]
def comT (l : List Int) : List UInt8 := l.flatMap fun n => Lib.itoa n ++ [44]
def showM (m : Msg) : List UInt8 := 32 :: (comT [m.seq, m.tries, m.until_, m.prio] ++ (quoteT m.body ++ [44] ++ quoteT m.attr ++ [44] ++ quoteT m.why))
def showD (d : List UInt8) : List UInt8 := if d = [] then [] else [32, 35] ++ d.flatMap hexT
def showT (r : RepV) : List UInt8 := if r.err ≠ 0 then [101, 114, 114, 32] ++ Lib.itoa r.err else [111, 107, 32] ++ Lib.itoa r.n ++ r.list.flatMap showM ++ showD r.data
def In64 (n : Int) : Prop := -9223372036854775808 ≤ n ∧ n ≤ 9223372036854775807
structure MsgS (m : Msg) : Prop where
  body : m.body.length ≤ 1048576
  attr : m.attr.length ≤ 1048576
  why : m.why.length ≤ 1048576
  seq : In64 m.seq
  tries : In64 m.tries
  unt : In64 m.until_
  prio : In64 m.prio
structure RepS (r : RepV) : Prop where
  err : 0 ≤ r.err ∧ r.err ≤ 65535
  n : In64 r.n
  len : r.list.length ≤ 1048576
  msgs : ∀ m ∈ r.list, MsgS m
  data : r.data.length ≤ 1048576
theorem comT_len : ∀ {l : List Int}, (∀ n ∈ l, In64 n) → (comT l).length ≤ 22 * l.length
  | [], _ => by simp [comT]
  | n :: l, h => by
    have h1 := itoa_len20 (h n (by simp))
    have h2 := comT_len (l := l) fun x hx => h x (by simp [hx])
    rw [comT, List.flatMap_cons, List.length_append, List.length_cons] 
    rw [comT] at h2
    simp only [List.length_append, List.length_singleton]
    omega
theorem MsgS.four {m : Msg} (h : MsgS m) : ∀ n ∈ [m.seq, m.tries, m.until_, m.prio], In64 n := by
  intro n hn
  simp only [List.mem_cons, List.not_mem_nil, or_false] at hn
  rcases hn with rfl | rfl | rfl | rfl
  · exact h.seq
  · exact h.tries
  · exact h.unt
  · exact h.prio
theorem showM_len {m : Msg} (h : MsgS m) : (showM m).length ≤ 9437300 := by
  have h1 := comT_len h.four
  have h2 := quoteT_len m.body
  have h3 := quoteT_len m.attr
  have h4 := quoteT_len m.why
  have h5 := h.body
  have h6 := h.attr
  have h7 := h.why
  simp only [List.length_cons, List.length_nil] at h1
  simp only [showM, List.length_cons, List.length_append, List.length_nil]
  omega
theorem shows_len : ∀ {l : List Msg}, (∀ m ∈ l, MsgS m) → (l.flatMap showM).length ≤ 9437300 * l.length
  | [], _ => by simp
  | m :: l, h => by
    have h1 := showM_len (h m (by simp))
    have h2 := shows_len (l := l) fun x hx => h x (by simp [hx])
    rw [List.flatMap_cons, List.length_append, List.length_cons]
    omega
theorem hexs_len : ∀ l : List UInt8, (l.flatMap hexT).length = 2 * l.length
  | [] => rfl
  | c :: l => by rw [List.flatMap_cons, List.length_append, hexs_len l, List.length_cons]; simp [hexT]; omega
theorem Bld.add {σ τ : St} {b c : Nat} {bs : List UInt8} {cs : List AV} (h : Bld σ τ b bs) (hc : τ.box c = none) : Bld (σ.setBox c cs) (τ.setBox c cs) b bs := by
  obtain ⟨ad, v, o, hb, had, hr, ho⟩ := h.here
  have hcb : b ≠ c := by rintro rfl; rw [hc] at hb; cases hb
  have hco : o ≠ some c := fun e => by
    rcases hr.go with ⟨_, _, h1⟩ | ⟨b0, _, _, _, h1, _, h3, _⟩
    · rw [e] at h1; cases h1
    · rw [e] at h1; cases h1; rw [hc] at h3; cases h3
  refine ⟨h.tag, by rw [setBox_ne hcb]; exact h.new, le_both h.le, ad, v, o, by rw [setBox_ne hcb]; exact hb, had, rowT_set hr hco, fun i e => ?_⟩
  rw [setBox_ne (fun e2 => hco (by rw [e, e2]))]
  exact ho i e
theorem Bld.less {σ' σ τ : St} {b : Nat} {bs : List UInt8} (h : Bld σ τ b bs) (hl : St.Le σ' σ) : Bld σ' τ b bs := by
  obtain ⟨ad, v, o, hb, had, hr, ho⟩ := h.here
  exact ⟨h.tag, le_none hl h.new, hl.trans h.le, ad, v, o, hb, had, hr, fun i e => le_none hl (ho i e)⟩
theorem Bld.none {σ τ : St} {b c : Nat} {bs : List UInt8} (h : Bld σ τ b bs) (hc : τ.box c = none) : σ.box c = none := le_none h.le hc
end Go.Proofs.YtjcikceophcooaaDoor
end
section
set_option linter.unusedVariables false
set_option linter.unusedSimpArgs false
set_option maxRecDepth 100000
set_option maxHeartbeats 4000000
namespace Go.Proofs.YtjcikceophcooaaDoor
open Go.Al Go.RowKit
theorem show_any (w0 : Base) (hL : Laid w0) (r : RepV) (hr : RepS r) : CallP Tryd.prog w0 12 [eRep r] (.str (showT r)) := by
  refine CallP.h Ty.tok Ty.mixed Tryd.func12 rfl Tryd.ntmps12 rfl (by simp) (by decide +kernel) fun σ => ?_
  obtain ⟨herr, hn, hlen, hmsgs, hdata⟩ := hr
  obtain ⟨err, n, l, d⟩ := r
  dsimp only at herr hn hlen hmsgs hdata
  have hi1 := itoa_any w0 hL err (by omega) (by omega)
  have hi2 := itoa_any w0 hL n hn.1 hn.2
  have hl1 := itoa_len20 (n := err) ⟨by omega, by omega⟩
  have hl2 := itoa_len20 (n := n) hn
  have hwr : IntKind.i64.wrap err = err := IntWalk.i64_in _ (by omega)
  by_cases he : err = 0
  · subst he
    rw [showT, if_neg (by simp)]
    (conv => whnf); refine Hid.seq ?_; refine Hid.reg ?_; (conv => whnf); refine SBox.f ?_; (conv => whnf); refine Hid.seq ?_; refine Hid.seq ?_; refine Hid.reg ?_; (conv => whnf); refine Hid.cond rfl ?_; refine SIf.n Ty.mixed (by exact rfl) ?_; refine Xc_h ?_; (conv => whnf); refine Hid.skip ?_; (conv => whnf); refine Hid.seq ?_; refine Hid.reg ?_; (conv => whnf)
    refine ⟨by decide, fun b3 ht3 hb3 => ?_⟩
    (conv => whnf); refine Hid.seq ?_; refine Hid.reg ?_; (conv => whnf); refine SCall.p (by exact hi2) ?_; (conv => whnf); refine And.intro (by simp only [List.length_cons, List.length_nil, List.length_append]; omega) ?_; (conv => whnf); refine SCall.w (writeString_any w0 (Bld.start ht3 hb3) ([111, 107, 32] ++ Lib.itoa n) (by simp) (by simp; omega)) rfl ?_; rintro r s ⟨rfl, hb⟩ hB
    refine ⟨_, Know.nil s, ?_⟩
    rw [List.nil_append] at hb
    (conv => whnf); refine Hid.seq ?_; refine Hid.seq ?_; refine Hid.reg ?_; (conv => whnf); refine Hid.block ?_; refine Hid.loop ?_
    skip
    obtain ⟨P, hP⟩ : ∃ P, P = [111, 107, 32] ++ Lib.itoa n := ⟨_, rfl⟩
    have hPl : P.length ≤ 24 := by rw [hP]; simp; omega
    rw [← hP] at hb ⊢
    clear hi1 hi2 hwr
    have hml : (l.map eMsg).length = l.length := by simp
    refine SLoop.by Ty.mixed (fun i : Nat => l.length - i) (fun i => [(1, .vp (eRep ⟨0, n, l, d⟩)), (3, .ptr b3 0), (24, .slc 8 (l.map eMsg) .no), (25, .int .i64 (l.map eMsg).length), (26, .int .i64 i)]) (fun _ => []) (fun i τ => i ≤ l.length ∧ Bld σ τ b3 (P ++ (l.take i).flatMap showM)) 0 ⟨by repeat (first | exact trivial | refine ⟨by first | trivial | exact Weak.refl _ | exact Weak.tok _ _ _ | exact Weak.of_eq (congrArg (AV.int _) (by omega)) | exact Weak.of_eq (congrArg AV.bool (by fail)) | exact Weak.nils _ _ (.inr rfl), ?_⟩), .none _, Nat.zero_le _, by simpa using hb⟩ ?_
    clear hb hB; rintro i τ ⟨hi, hb⟩
    have hsl := shows_len (l := l.take i) fun m hm => hmsgs m (List.mem_of_mem_take hm)
    have htl : (l.take i).length ≤ 1048576 := by rw [List.length_take]; omega
    by_cases hlt : i < l.length
    · have ga : (l.map eMsg)[i]? = some (eMsg l[i]) := by simp [hlt]
      have hm := hmsgs _ (List.getElem_mem hlt)
      have htk : (l.take (i + 1)).flatMap showM = (l.take i).flatMap showM ++ showM l[i] := by
        rw [List.take_succ_eq_append_getElem hlt, List.flatMap_append]; simp
      obtain ⟨Q, hQ⟩ : ∃ Q, Q = P ++ (l.take i).flatMap showM := ⟨_, rfl⟩
      have hQl : Q.length ≤ 10000000000000 := by rw [hQ, List.length_append]; omega
      rw [← hQ] at hb
      rw [showM] at htk
      generalize l[i] = m at *
      refine Xc_h ?_; (conv => whnf); refine Hid.seq ?_; refine Hid.reg ?_; (conv => whnf); refine Hid.seq ?_; refine Hid.cond rfl ?_
      skip
      refine SIf.y Ty.mixed (decide_eq_true (by rw [hml]; omega)) ?_; refine Xc_h ?_; (conv => whnf); refine Hid.skip ?_; (conv => whnf); refine Hid.seq ?_; refine Hid.seq ?_; refine Hid.reg ?_; (conv => whnf)
      refine ⟨_, ⟨by first | omega | (simp only [List.length_cons, List.length_nil, List.length_append]; omega) | fail, by exact ga⟩, ?_⟩
      (conv => whnf); intro b5 hb5; (conv => whnf); refine SStore.on 0 rfl ?_; (conv => whnf); refine Hid.seq ?_; refine Hid.reg ?_; (conv => whnf)
      have h5n := hb.none hb5
      have hb' := hb.add (cs := (eMsg m).cells) hb5
      refine SCall.w (writeByte_any w0 (σ := σ.setBox b5 (eMsg m).cells) (by rw [setBox_setBox]; exact hb') 32 (by omega)) rfl ?_; rintro r s' ⟨rfl, hb2⟩ hB
      have h5 := hb2.le.box b5 _ setBox_same
      refine ⟨[(b5, (eMsg m).cells)], (Know.nil s').add h5 (by simp), ?_⟩; (conv => whnf); refine Hid.seq ?_; refine Hid.seq ?_; refine Hid.reg ?_; (conv => whnf); refine SLoad.on 0 rfl ?_; (conv => whnf); refine SLoad.on 0 rfl ?_; (conv => whnf); refine SLoad.on 0 rfl ?_; (conv => whnf); refine SLoad.on 0 rfl ?_; (conv => whnf); refine Hid.block ?_; refine Hid.loop ?_
      refine SLoop.by Ty.mixed (fun j : Nat => 4 - j) (fun j => [(1, .vp (eRep ⟨0, n, l, d⟩)), (3, .ptr b3 0), (5, .ptr b5 0), (24, .slc 8 (l.map eMsg) .no), (25, .int .i64 (l.map eMsg).length), (26, .int .i64 i), (39, .agg [.int .i64 m.seq, .int .i64 m.tries, .int .i64 m.until_, .int .i64 m.prio]), (40, .int .i64 j)]) (fun _ => [(b5, (eMsg m).cells)]) (fun j s => j ≤ 4 ∧ Bld (σ.setBox b5 (eMsg m).cells) s b3 (Q ++ [32] ++ comT ([m.seq, m.tries, m.until_, m.prio].take j))) 0 ⟨by repeat (first | exact trivial | refine ⟨by first | trivial | exact Weak.refl _ | exact Weak.tok _ _ _ | exact Weak.of_eq (congrArg (AV.int _) (by omega)) | exact Weak.of_eq (congrArg AV.bool (by fail)) | exact Weak.nils _ _ (.inr rfl), ?_⟩), .refl _, Nat.zero_le _, by simpa [comT] using hb2⟩ ?_
      clear hb hb' hb2 h5 hB; rintro j s ⟨hj, hb⟩
      by_cases hj4 : j < 4
      · obtain ⟨x, hx, hx64, hct⟩ : ∃ x, [AV.int .i64 m.seq, .int .i64 m.tries, .int .i64 m.until_, .int .i64 m.prio][((j : Int)).toNat * 1]? = some (.int .i64 x) ∧ In64 x ∧ comT ([m.seq, m.tries, m.until_, m.prio].take (j + 1)) = comT ([m.seq, m.tries, m.until_, m.prio].take j) ++ (Lib.itoa x ++ [44]) := by
          have hj' : j = 0 ∨ j = 1 ∨ j = 2 ∨ j = 3 := by omega
          rcases hj' with rfl | rfl | rfl | rfl
          · exact ⟨_, rfl, hm.seq, by simp [comT]⟩
          · exact ⟨_, rfl, hm.tries, by simp [comT]⟩
          · exact ⟨_, rfl, hm.unt, by simp [comT]⟩
          · exact ⟨_, rfl, hm.prio, by simp [comT]⟩
        have hcl : (comT ([m.seq, m.tries, m.until_, m.prio].take j)).length ≤ 88 := by
          have h1 := comT_len (l := [m.seq, m.tries, m.until_, m.prio].take j) fun x hx => hm.four x (List.mem_of_mem_take hx)
          rw [List.length_take] at h1
          simp only [List.length_cons, List.length_nil] at h1
          omega
        have hxl := itoa_len20 hx64
        refine Xc_h ?_; (conv => whnf); refine Hid.seq ?_; refine Hid.reg ?_; (conv => whnf); refine Hid.seq ?_; refine Hid.cond rfl ?_
        skip
        refine SIf.y Ty.mixed (decide_eq_true (by omega)) ?_; refine Xc_h ?_; (conv => whnf); refine Hid.skip ?_; (conv => whnf); refine Hid.seq ?_; refine Hid.seq ?_; refine Hid.reg ?_; (conv => whnf); refine And.intro (by omega) ?_; (conv => whnf); refine ⟨_, hx, ?_⟩; (conv => whnf); refine Hid.reg ?_; (conv => whnf); refine SCall.p (by exact itoa_any w0 hL x hx64.1 hx64.2) ?_; (conv => whnf)
        refine And.intro (by simp only [List.length_cons, List.length_nil, List.length_append]; omega) ?_; (conv => whnf); refine SCall.w (writeString_any w0 hb (Lib.itoa x ++ [44]) (by simp) (by simp only [List.length_append, List.length_cons, List.length_nil]; omega)) rfl ?_; rintro r s2 ⟨rfl, hb2⟩ hB; refine ⟨[(b5, (eMsg m).cells)], (Know.nil s2).add (hb2.le.box b5 _ setBox_same) (by simp), ?_⟩
        (conv => whnf); refine Hid.reg ?_; (conv => whnf); refine ⟨_, IntWalk.i64_in _ (by omega), ?_⟩; (conv => whnf)
        exact ⟨j + 1, by omega, by repeat (first | exact trivial | refine ⟨by first | trivial | exact Weak.refl _ | exact Weak.tok _ _ _ | exact Weak.of_eq (congrArg (AV.int _) (by omega)) | exact Weak.of_eq (congrArg AV.bool (by fail)) | exact Weak.nils _ _ (.inr rfl), ?_⟩), .refl _, hj4, by rw [hct, ← List.append_assoc]; exact hb2⟩
      · have hje : j = 4 := by omega
        subst hje
        have hq1 := quoteT_len m.body
        have hq2 := quoteT_len m.attr
        have hq3 := quoteT_len m.why
        have hm1 := hm.body
        have hm2 := hm.attr
        have hm3 := hm.why
        have hcl := comT_len hm.four
        simp only [List.length_cons, List.length_nil] at hcl
        rw [show [m.seq, m.tries, m.until_, m.prio].take 4 = [m.seq, m.tries, m.until_, m.prio] from rfl] at hb
        refine Xc_h ?_; (conv => whnf); refine Hid.seq ?_; refine Hid.reg ?_; (conv => whnf); refine Hid.seq ?_; refine Hid.cond rfl ?_; refine SIf.n Ty.mixed (by exact rfl) ?_; refine Xc_h ?_; (conv => whnf); refine Hid.exit ?_; (conv => whnf); refine Hid.regD ?_; refine SReg.d [0, 4, 9, 1, 2, 3, 5, 6, 7, 8, 10, 11, 12, 13] [0, 1, 0, 0, 0, 1, 0, 0, 0, 0, 1, 0, 0, 2] (by decide +kernel) ?_; (conv => whnf); (conv => whnf)
        refine SLoad.on 0 rfl ?_; (conv => whnf); refine SCall.p (by exact quote_any w0 m.body (by omega)) ?_; (conv => whnf); refine And.intro (by simp only [List.length_cons, List.length_nil, List.length_append]; omega) ?_; (conv => whnf); refine SLoad.on 0 rfl ?_; (conv => whnf); refine SCall.p (by exact quote_any w0 m.attr (by omega)) ?_; (conv => whnf)
        refine And.intro (by simp only [List.length_cons, List.length_nil, List.length_append]; omega) ?_; (conv => whnf); refine And.intro (by simp only [List.length_cons, List.length_nil, List.length_append]; omega) ?_; (conv => whnf); refine SLoad.on 0 rfl ?_; (conv => whnf); refine SCall.p (by exact quote_any w0 m.why (by omega)) ?_; (conv => whnf)
        refine And.intro (by simp only [List.length_cons, List.length_nil, List.length_append]; omega) ?_; (conv => whnf); refine SCall.w (writeString_any w0 hb (quoteT m.body ++ [44] ++ quoteT m.attr ++ [44] ++ quoteT m.why) (by simp) (by simp only [List.length_append, List.length_cons, List.length_nil]; omega)) rfl ?_; rintro r s2 ⟨rfl, hb2⟩ hB; refine ⟨_, Know.nil s2, ?_⟩; (conv => whnf)
        refine Hid.reg ?_; (conv => whnf); refine ⟨_, IntWalk.i64_in _ (by omega), ?_⟩; (conv => whnf)
        refine ⟨i + 1, by omega, by repeat (first | exact trivial | refine ⟨by first | trivial | exact Weak.refl _ | exact Weak.tok _ _ _ | exact Weak.of_eq (congrArg (AV.int _) (by omega)) | exact Weak.of_eq (congrArg AV.bool (by fail)) | exact Weak.nils _ _ (.inr rfl), ?_⟩), .none _, hlt, ?_⟩
        have hb3' := hb2.less (le_setBox (cs := (eMsg m).cells) (.refl σ) h5n)
        have e : Q ++ [32] ++ comT [m.seq, m.tries, m.until_, m.prio] ++ (quoteT m.body ++ [44] ++ quoteT m.attr ++ [44] ++ quoteT m.why) = P ++ (l.take (i + 1)).flatMap showM := by
          rw [htk, hQ]; simp [List.append_assoc]
        rw [← e]
        exact hb3'
    · have hge : i = l.length := by omega
      subst hge
      rw [List.take_length] at hb hsl
      obtain ⟨R, hR⟩ : ∃ R, R = P ++ l.flatMap showM := ⟨_, rfl⟩
      have hRl : R.length ≤ 10000000000000 := by rw [hR, List.length_append]; omega
      rw [← hR] at hb ⊢
      refine Xc_h ?_; (conv => whnf); refine Hid.seq ?_; refine Hid.reg ?_; (conv => whnf); refine Hid.seq ?_; refine Hid.cond rfl ?_
      skip
      refine SIf.n Ty.mixed (decide_eq_false (by rw [hml]; omega)) ?_; refine Xc_h ?_; (conv => whnf); refine Hid.exit ?_; (conv => whnf); refine Hid.seq ?_; refine Hid.seq ?_; refine Hid.reg ?_; (conv => whnf); refine Hid.block ?_; refine Hid.loop ?_
      skip
      have hdl : (aBytes d).length = d.length := bytes_len d
      refine SLoop.by Ty.mixed (fun i : Nat => d.length - i) (fun i => [(3, .ptr b3 0), (64, .slc 1 (aBytes d) .no), (65, .int .i64 (aBytes d).length), (66, .int .i64 i)]) (fun _ => []) (fun i s => i ≤ d.length ∧ Bld σ s b3 (R ++ showD (d.take i))) 0 ⟨by repeat (first | exact trivial | refine ⟨by first | trivial | exact Weak.refl _ | exact Weak.tok _ _ _ | exact Weak.of_eq (congrArg (AV.int _) (by omega)) | exact Weak.of_eq (congrArg AV.bool (by fail)) | exact Weak.nils _ _ (.inr rfl), ?_⟩), .none _, Nat.zero_le _, by simpa [showD] using hb⟩ ?_
      clear hb; rintro i s ⟨hi, hb⟩
      by_cases hlt : i < d.length
      · have gc : (aBytes d)[i]? = some (.int .u8 d[i].toNat) := by simp [aBytes, aByte, hlt]
        have hx2 := hexs_len (d.take i)
        have htl2 : (d.take i).length = i := by rw [List.length_take]; omega
        have hdx : (d.take (i + 1)).flatMap hexT = (d.take i).flatMap hexT ++ hexT d[i] := by
          rw [List.take_succ_eq_append_getElem hlt, List.flatMap_append]; simp
        have hne1 : d.take (i + 1) ≠ [] := fun e => by
          have h1 : (d.take (i + 1)).length = i + 1 := by rw [List.length_take]; omega
          rw [e] at h1
          simp at h1
        have hs1 : showD (d.take (i + 1)) = [32, 35] ++ (d.take (i + 1)).flatMap hexT := by rw [showD, if_neg hne1]
        rw [hdx] at hs1
        generalize d[i] = c at *
        by_cases hi0 : i = 0
        · subst hi0
          rw [List.take_zero] at hb hs1
          rw [showD, if_pos rfl, List.append_nil] at hb
          refine Xc_h ?_; (conv => whnf); refine Hid.seq ?_; refine Hid.reg ?_; (conv => whnf); refine Hid.seq ?_; refine Hid.cond rfl ?_
          skip
          refine SIf.y Ty.mixed (decide_eq_true (by rw [hdl]; omega)) ?_; refine Xc_h ?_; (conv => whnf); refine Hid.skip ?_; (conv => whnf); refine Hid.seq ?_; refine Hid.seq ?_; refine Hid.reg ?_; (conv => whnf)
          refine ⟨_, ⟨by first | omega | (simp only [List.length_cons, List.length_nil, List.length_append]; omega) | fail, by exact gc⟩, ?_⟩
          (conv => whnf); refine Hid.seq ?_; refine Hid.seq ?_; refine Hid.reg ?_; (conv => whnf); refine Hid.cond rfl ?_; refine SIf.y Ty.mixed (by exact rfl) ?_; refine Xc_h ?_; (conv => whnf); refine Hid.reg ?_; (conv => whnf); refine SCall.w (writeString_any w0 hb [32, 35] (by simp) (by simp; omega)) rfl ?_; rintro r s2 ⟨rfl, hb2⟩ hB; refine ⟨_, Know.nil s2, ?_⟩; (conv => whnf)
          refine Hid.reg ?_; (conv => whnf); refine SCall.p (by exact hex_any w0 c) ?_; (conv => whnf); refine SCall.w (writeString_any w0 hb2 (hexT c) (by simp [hexT]) (by simp [hexT]; omega)) rfl ?_; rintro r s3 ⟨rfl, hb3⟩ hB; refine ⟨_, Know.nil s3, ?_⟩; (conv => whnf); refine Hid.reg ?_; (conv => whnf); refine ⟨_, IntWalk.i64_in _ (by omega), ?_⟩; (conv => whnf)
          exact ⟨0 + 1, by omega, by repeat (first | exact trivial | refine ⟨by first | trivial | exact Weak.refl _ | exact Weak.tok _ _ _ | exact Weak.of_eq (congrArg (AV.int _) (by omega)) | exact Weak.of_eq (congrArg AV.bool (by fail)) | exact Weak.nils _ _ (.inr rfl), ?_⟩), .none _, hlt, by rw [hs1]; simpa using hb3⟩
        · have hne0 : d.take i ≠ [] := fun e => by
            have := congrArg List.length e
            rw [htl2] at this
            simp at this
            omega
          rw [showD, if_neg hne0] at hb
          have d0 : decide ((i : Int) = 0) = false := decide_eq_false (by omega)
          refine Xc_h ?_; (conv => whnf); refine Hid.seq ?_; refine Hid.reg ?_; (conv => whnf); refine Hid.seq ?_; refine Hid.cond rfl ?_
          skip
          refine SIf.y Ty.mixed (decide_eq_true (by rw [hdl]; omega)) ?_; refine Xc_h ?_; (conv => whnf); refine Hid.skip ?_; (conv => whnf); refine Hid.seq ?_; refine Hid.seq ?_; refine Hid.reg ?_; (conv => whnf)
          refine ⟨_, ⟨by first | omega | (simp only [List.length_cons, List.length_nil, List.length_append]; omega) | fail, by exact gc⟩, ?_⟩
          (conv => whnf); refine Hid.seq ?_; refine Hid.seq ?_; refine Hid.reg ?_; (conv => whnf); refine Hid.cond rfl ?_; refine SIf.n Ty.mixed (by assumption) ?_; refine Xc_h ?_; (conv => whnf); refine Hid.skip ?_; (conv => whnf); refine Hid.reg ?_; (conv => whnf); refine SCall.p (by exact hex_any w0 c) ?_; (conv => whnf)
          refine SCall.w (writeString_any w0 hb (hexT c) (by simp [hexT]) (by simp only [List.length_append, List.length_cons, List.length_nil, hexT]; omega)) rfl ?_; rintro r s3 ⟨rfl, hb3⟩ hB; refine ⟨_, Know.nil s3, ?_⟩; (conv => whnf); refine Hid.reg ?_; (conv => whnf); refine ⟨_, IntWalk.i64_in _ (by omega), ?_⟩; (conv => whnf)
          exact ⟨i + 1, by omega, by repeat (first | exact trivial | refine ⟨by first | trivial | exact Weak.refl _ | exact Weak.tok _ _ _ | exact Weak.of_eq (congrArg (AV.int _) (by omega)) | exact Weak.of_eq (congrArg AV.bool (by fail)) | exact Weak.nils _ _ (.inr rfl), ?_⟩), .none _, hlt, by rw [hs1]; simpa using hb3⟩
      · have hge : i = d.length := by omega
        subst hge
        rw [List.take_length] at hb
        have hsd : (showD d).length ≤ 2097154 := by
          have := hexs_len d
          rw [showD]
          split
          · simp
          · rw [List.length_append, this]; simp; omega
        refine Xc_h ?_; (conv => whnf); refine Hid.seq ?_; refine Hid.reg ?_; (conv => whnf); refine Hid.seq ?_; refine Hid.cond rfl ?_
        skip
        refine SIf.n Ty.mixed (decide_eq_false (by rw [hdl]; omega)) ?_; refine Xc_h ?_; (conv => whnf); refine Hid.exit ?_; (conv => whnf); refine Hid.seq ?_; refine Hid.reg ?_; (conv => whnf)
        skip
        refine SCall.w (string_any w0 hb (by rw [List.length_append]; omega)) rfl ?_; rintro r s2 ⟨rfl, hle⟩ hB; refine ⟨_, Know.nil s2, ?_⟩; (conv => whnf); refine Hid.ret ?_; (conv => whnf)
        skip
        exact .p hle rfl
  · rw [showT, if_pos he]
    (conv => whnf); refine Hid.seq ?_; refine Hid.reg ?_; (conv => whnf); refine SBox.f ?_; (conv => whnf); refine Hid.seq ?_; refine Hid.seq ?_; refine Hid.reg ?_; (conv => whnf); refine Hid.cond rfl ?_; refine SIf.y Ty.mixed (by simp [he]) ?_; refine Xc_h ?_; (conv => whnf); refine Hid.seq ?_; refine Hid.reg ?_; (conv => whnf); refine ⟨_, hwr, ?_⟩; (conv => whnf); refine SCall.p (by exact hi1) ?_
    (conv => whnf); refine And.intro (by simp only [List.length_cons, List.length_nil, List.length_append]; omega) ?_; (conv => whnf); refine Hid.ret ?_; (conv => whnf); exact .p (.refl _) rfl
end Go.Proofs.YtjcikceophcooaaDoor
end
section
set_option linter.unusedVariables false
set_option linter.unusedSimpArgs false
set_option maxRecDepth 100000
set_option maxHeartbeats 4000000
namespace Go.Proofs.YtjcikceophcooaaDoor
open Go.Al Go.RowKit
theorem itoa_one {n : Nat} (h : n < 10) : Lib.itoa (n : Int) = [UInt8.ofNat (48 + n)] := by rw [Lib.itoa_nonneg, Lib.decDigits_one h]
theorem num_one {n : Nat} (h : n < 10) : goAtoi [UInt8.ofNat (48 + n)] = ((n : Int), true) ∧ numOk [UInt8.ofNat (48 + n)] = true := by
  have := num_itoa (n := (n : Int)) ⟨by omega, by omega⟩
  rwa [itoa_one h] at this
theorem parse_fetch : parseT [102, 101, 116, 99, 104, 32, 49, 32, 53] = (⟨4, 1, 5, 0, [], [], [], [], [], []⟩, 0) := by
  have h1 := num_one (n := 1) (by decide)
  have h5 := num_one (n := 5) (by decide)
  have e : pcs 32 [102, 101, 116, 99, 104, 32, 49, 32, 53] = [[102, 101, 116, 99, 104], [49], [53]] := by decide
  rw [parseT, e]
  show parseAt formsL 0 _ _ = _
  have e2 : parseAt formsL 0 [102, 101, 116, 99, 104] [[49], [53]] = fillR (opK 4) [6, 7] [[49], [53]] := rfl
  rw [e2, fillR, fillR, fillR]
  have g1 : goAtoi [49] = (1, true) := h1.1
  have g2 : numOk [49] = true := h1.2
  have g3 : goAtoi [53] = (5, true) := h5.1
  have g4 : numOk [53] = true := h5.2
  simp only [setF, g1, g2, g3, g4, if_true]
  rfl
theorem show_zero : showT ⟨0, 0, [], []⟩ = [111, 107, 32, 48] := by
  have : Lib.itoa 0 = [48] := itoa_one (n := 0) (by decide)
  simp [showT, this, showD]
theorem known22_any (w0 : Base) (hL : Laid w0) : CallP Tryd.prog w0 8 [] (.bool true) := by
  have hu : CallP Tryd.prog w0 19 [.str [97, 37, 50, 48, 98]] (.tup [.str [97, 32, 98], .bool true]) := unquote_any w0 [97, 37, 50, 48, 98] (by decide)
  have hp := parse_any w0 hL [102, 101, 116, 99, 104, 32, 49, 32, 53] (by decide)
  rw [parse_fetch] at hp
  have hq : CallP Tryd.prog w0 10 [.str [97, 32, 98]] (.str [97, 37, 50, 48, 98]) := quote_any w0 [97, 32, 98] (by decide)
  have hs : CallP Tryd.prog w0 12 [.agg [.int .u16 0, .int .i64 0, .nils, .nils]] (.str [111, 107, 32, 48]) := fun σ => by
    have := show_any w0 hL ⟨0, 0, [], []⟩ ⟨⟨by decide, by decide⟩, ⟨by decide, by decide⟩, by decide, (fun m hm => by cases hm), by decide⟩ σ
    rw [show_zero] at this
    exact this.weaken (.cons (.agg (.cons (.refl _) (.cons (.refl _) (.cons (.nils 8 .no (.inl rfl)) (.cons (.nils 1 .no (.inl rfl)) .nil)))) (by simp [AV.one])) .nil)
  refine CallP.h Ty.tok Ty.mixed Tryd.func8 rfl Tryd.ntmps8 rfl (by simp) (by decide +kernel) fun σ => ?_
  (conv => whnf); refine Hid.seq ?_; refine Hid.reg ?_; (conv => whnf); refine Hid.seq ?_; refine Hid.reg ?_; (conv => whnf); refine SCall.p (by exact hu) ?_; (conv => whnf); refine Hid.seq ?_; refine Hid.reg ?_; (conv => whnf); refine SCall.p (by exact hp) ?_; (conv => whnf); intro b3 hb3; (conv => whnf); refine SStore.on 0 rfl ?_; (conv => whnf); refine Hid.seq ?_; refine Hid.reg ?_
  (conv => whnf); refine SCall.p (by exact hq) ?_; (conv => whnf); refine SCond.y (by exact rfl) ?_; (conv => whnf); refine SPick.y (by exact rfl) ?_; (conv => whnf); refine SCond.y (by exact rfl) ?_; (conv => whnf); refine SCond.y (by exact rfl) ?_; (conv => whnf); refine SPick.y (by exact rfl) ?_; (conv => whnf); refine SCond.y (by exact rfl) ?_; (conv => whnf); refine SCond.y (by exact rfl) ?_
  (conv => whnf); refine SCall.p (by exact hs) ?_; (conv => whnf); refine SCond.y (by exact rfl) ?_; (conv => whnf); refine SPick.y (by exact rfl) ?_; (conv => whnf); refine SCond.y (by exact rfl) ?_; (conv => whnf); refine SCond.y (by exact rfl) ?_; (conv => whnf); refine SPick.y (by exact rfl) ?_; (conv => whnf); refine SCond.y (by exact rfl) ?_; (conv => whnf); refine SCond.y (by exact rfl) ?_
  (conv => whnf); refine SLoad.on 0 rfl ?_; (conv => whnf); refine SCond.y (by exact rfl) ?_; (conv => whnf); refine SPick.y (by exact rfl) ?_; (conv => whnf); refine SCond.y (by exact rfl) ?_; (conv => whnf); refine SCond.y (by exact rfl) ?_; (conv => whnf); refine SLoad.on 0 rfl ?_; (conv => whnf); refine SCond.y (by exact rfl) ?_; (conv => whnf); refine SPick.y (by exact rfl) ?_; (conv => whnf)
  refine SCond.y (by exact rfl) ?_; (conv => whnf); refine SCond.y (by exact rfl) ?_; (conv => whnf); refine SLoad.on 0 rfl ?_; (conv => whnf); refine SCond.y (by exact rfl) ?_; (conv => whnf); refine SPick.y (by exact rfl) ?_; (conv => whnf); refine Hid.ret ?_; (conv => whnf); exact .p (le_new2 (.refl _) hb3) rfl
end Go.Proofs.YtjcikceophcooaaDoor
end
section
set_option linter.unusedVariables false
set_option linter.unusedSimpArgs false
set_option maxRecDepth 100000
set_option maxHeartbeats 4000000
namespace Go.Proofs.YtjcikceophcooaaDoor
open Go.Al Go.RowKit
theorem refShow_any (w0 : Base) (hL : Laid w0) (r : RepV) (hr : RepS r) : CallP Tryd.prog w0 13 [eRep r] (.str (showT r)) := by
  refine CallP.h Ty.tok Ty.mixed Tryd.func13 rfl Tryd.ntmps13 rfl (by simp) (by decide +kernel) fun σ => ?_
  obtain ⟨herr, hn, hlen, hmsgs, hdata⟩ := hr
  obtain ⟨err, n, l, d⟩ := r
  dsimp only at herr hn hlen hmsgs hdata
  have hi1 := itoa_any w0 hL err (by omega) (by omega)
  have hi2 := itoa_any w0 hL n hn.1 hn.2
  have hl1 := itoa_len20 (n := err) ⟨by omega, by omega⟩
  have hl2 := itoa_len20 (n := n) hn
  have hwr : IntKind.i64.wrap err = err := IntWalk.i64_in _ (by omega)
  by_cases he : err = 0
  · subst he
    rw [showT, if_neg (by simp)]
    (try refine Xc_h ?_); (try (conv => whnf)); repeat (first | refine Hid.seq ?_ | (refine Hid.reg ?_; (conv => whnf)) | refine Hid.regD ?_ | refine Hid.cond rfl ?_ | refine Hid.block ?_ | refine Hid.loop ?_ | (refine Hid.exit ?_; (conv => whnf)) | (refine Hid.ret ?_; (conv => whnf)) | (refine Hid.skip ?_; (conv => whnf)) | (refine Hid.label ?_; (conv => whnf)) | refine Hid.range ?_)
    repeat' (((first | refine SIf.y Ty.mixed (by first | exact rfl | assumption | fail) ?_ | refine SIf.n Ty.mixed (by first | exact rfl | assumption | fail) ?_ | refine SCond.y (by first | exact rfl | assumption | fail) ?_ | refine SCond.n (by first | exact rfl | assumption | fail) ?_ | refine SPick.y (by first | exact rfl | assumption | fail) ?_ | refine SPick.n (by first | exact rfl | assumption | fail) ?_ | refine SPick.b ?_ | refine SPick.i ?_ | refine ⟨_, hwr, ?_⟩ | refine SLoad.on 0 rfl ?_ | refine SLoad.on 1 rfl ?_ | refine SLoad.on 2 rfl ?_ | refine SLoad.on 3 rfl ?_ | refine SLoad.on 4 rfl ?_ | refine SLoad.on 5 rfl ?_ | refine SStore.on 0 rfl ?_ | refine SStore.on 1 rfl ?_ | refine SStore.on 2 rfl ?_ | refine SStore.on 3 rfl ?_ | refine SStore.on 4 rfl ?_ | refine SStore.on 5 rfl ?_ | refine SBox.f ?_ | refine SCall.p (by first | exact hi1 | exact hi2) ?_ | fail | refine SApp.c rfl rfl (by first | assumption | exact Moves.more (by assumption) (by assumption) | fail) (by first | (simp only [length_aBytes, List.length_append, List.length_cons, List.length_nil, List.length_map, List.length_range]; omega) | omega | fail) fun tk1 σ1 hm => ?_ | refine SReg.t 0 [] (by decide +kernel) ?_ | refine And.intro (by first | omega | (simp only [List.length_cons, List.length_nil, List.length_append]; omega) | fail) ?_ | refine ⟨_, ⟨by first | omega | (simp only [List.length_cons, List.length_nil, List.length_append]; omega) | fail, by first | assumption | exact get_map (by assumption) | exact get_bytes (by assumption) | fail⟩, ?_⟩ | refine ⟨_, toBytes_aBytes _, ?_⟩ | refine ⟨_, by repeat (first | exact toB_nil | apply toB_cons | apply toB_consC _ (by first | omega | (simp only [List.length_cons, List.length_nil, List.length_append]; omega) | fail)), ?_⟩ | refine ⟨_, IntWalk.i64_in _ (by first | omega | (simp only [List.length_cons, List.length_nil, List.length_append]; omega) | fail), ?_⟩ | refine ⟨_, wrap_u8 _, ?_⟩ | refine ⟨_, rfl, ?_⟩ | refine ⟨true, fun b1 hb1 => ?_⟩ | intro b1 hb1 | fail); (try refine Xc_h ?_); (try (conv => whnf)); repeat (first | refine Hid.seq ?_ | (refine Hid.reg ?_; (conv => whnf)) | refine Hid.regD ?_ | refine Hid.cond rfl ?_ | refine Hid.block ?_ | refine Hid.loop ?_ | (refine Hid.exit ?_; (conv => whnf)) | (refine Hid.ret ?_; (conv => whnf)) | (refine Hid.skip ?_; (conv => whnf)) | (refine Hid.label ?_; (conv => whnf)) | refine Hid.range ?_)))
    obtain ⟨P, hP⟩ : ∃ P, P = [111, 107, 32] ++ Lib.itoa n := ⟨_, rfl⟩
    have hPl : P.length ≤ 24 := by rw [hP]; simp; omega
    rw [← hP]
    clear hi1 hi2 hwr
    have hml : (l.map eMsg).length = l.length := by simp
    refine SLoop.by Ty.mixed (fun i : Nat => l.length - i) (fun i => [(1, .vp (eRep ⟨0, n, l, d⟩)), (3, .str (P ++ (l.take i).flatMap showM)), (4, .int .i64 i)]) (fun _ => []) (fun i τ => i ≤ l.length ∧ St.Le σ τ) 0 ⟨by show xWeak [(1, .vp (eRep ⟨0, n, l, d⟩)), (3, .str (P ++ (l.take 0).flatMap showM)), (4, .int .i64 ((0 : Nat) : Int))] _; rw [show P ++ (l.take 0).flatMap showM = P by simp]; repeat (first | exact trivial | refine ⟨by first | trivial | exact Weak.refl _ | exact Weak.tok _ _ _ | exact Weak.of_eq (congrArg (AV.int _) (by omega)) | exact Weak.of_eq (congrArg AV.bool (by fail)) | exact Weak.nils _ _ (.inr rfl), ?_⟩), .none _, Nat.zero_le _, .refl _⟩ ?_
    rintro i τ ⟨hi, hle⟩
    have hsl := shows_len (l := l.take i) fun m hm => hmsgs m (List.mem_of_mem_take hm)
    have htl : (l.take i).length ≤ 1048576 := by rw [List.length_take]; omega
    by_cases hlt : i < l.length
    · have ga : (l.map eMsg)[i]? = some (eMsg l[i]) := by simp [hlt]
      have hm := hmsgs _ (List.getElem_mem hlt)
      have htk : (l.take (i + 1)).flatMap showM = (l.take i).flatMap showM ++ showM l[i] := by
        rw [List.take_succ_eq_append_getElem hlt, List.flatMap_append]; simp
      obtain ⟨Q, hQ⟩ : ∃ Q, Q = P ++ (l.take i).flatMap showM := ⟨_, rfl⟩
      have hQl : Q.length ≤ 10000000000000 := by rw [hQ, List.length_append]; omega
      have hQn : P ++ (l.take (i + 1)).flatMap showM = Q ++ showM l[i] := by rw [htk, hQ, List.append_assoc]
      rw [← hQ]
      rw [showM] at hQn
      clear htk hsl
      generalize l[i] = m at *
      have hq1 := quoteT_len m.body
      have hq2 := quoteT_len m.attr
      have hq3 := quoteT_len m.why
      have hm1 := hm.body
      have hm2 := hm.attr
      have hm3 := hm.why
      have hn1 := itoa_len20 hm.seq
      have hn2 := itoa_len20 hm.tries
      have hn3 := itoa_len20 hm.unt
      have hn4 := itoa_len20 hm.prio
      have c1 := itoa_any w0 hL m.seq hm.seq.1 hm.seq.2
      have c2 := itoa_any w0 hL m.tries hm.tries.1 hm.tries.2
      have c3 := itoa_any w0 hL m.until_ hm.unt.1 hm.unt.2
      have c4 := itoa_any w0 hL m.prio hm.prio.1 hm.prio.2
      have c5 := refQuote_any w0 m.body (by omega)
      have c6 := refQuote_any w0 m.attr (by omega)
      have c7 := refQuote_any w0 m.why (by omega)
      (try refine Xc_h ?_); (try (conv => whnf)); repeat (first | refine Hid.seq ?_ | (refine Hid.reg ?_; (conv => whnf)) | refine Hid.regD ?_ | refine Hid.cond rfl ?_ | refine Hid.block ?_ | refine Hid.loop ?_ | (refine Hid.exit ?_; (conv => whnf)) | (refine Hid.ret ?_; (conv => whnf)) | (refine Hid.skip ?_; (conv => whnf)) | (refine Hid.label ?_; (conv => whnf)) | refine Hid.range ?_)
      repeat' (((first | refine SIf.y Ty.mixed (by first | exact rfl | assumption | fail) ?_ | refine SIf.n Ty.mixed (by first | exact rfl | assumption | fail) ?_ | refine SCond.y (by first | exact rfl | assumption | fail) ?_ | refine SCond.n (by first | exact rfl | assumption | fail) ?_ | refine SPick.y (by first | exact rfl | assumption | fail) ?_ | refine SPick.n (by first | exact rfl | assumption | fail) ?_ | refine SPick.b ?_ | refine SPick.i ?_ | refine SReg.fz 5 hb5 rfl rfl ?_ | refine SLoad.on 0 rfl ?_ | refine SLoad.on 1 rfl ?_ | refine SLoad.on 2 rfl ?_ | refine SLoad.on 3 rfl ?_ | refine SLoad.on 4 rfl ?_ | refine SLoad.on 5 rfl ?_ | refine SStore.on 0 rfl ?_ | refine SStore.on 1 rfl ?_ | refine SStore.on 2 rfl ?_ | refine SStore.on 3 rfl ?_ | refine SStore.on 4 rfl ?_ | refine SStore.on 5 rfl ?_ | refine SBox.f ?_ | refine SCall.p (by first | exact c1 | exact c2 | exact c3 | exact c4 | exact c5 | exact c6 | exact c7) ?_ | fail | refine SApp.c rfl rfl (by first | assumption | exact Moves.more (by assumption) (by assumption) | fail) (by first | (simp only [length_aBytes, List.length_append, List.length_cons, List.length_nil, List.length_map, List.length_range]; omega) | omega | fail) fun tk1 σ1 hm => ?_ | refine SReg.t 0 [] (by decide +kernel) ?_ | refine And.intro (by first | omega | (simp only [List.length_cons, List.length_nil, List.length_append]; omega) | fail) ?_ | refine ⟨_, ⟨by first | omega | (simp only [List.length_cons, List.length_nil, List.length_append]; omega) | fail, by first | exact ⟨by omega, ga⟩ | exact ga⟩, ?_⟩ | refine ⟨_, toBytes_aBytes _, ?_⟩ | refine ⟨_, by repeat (first | exact toB_nil | apply toB_cons | apply toB_consC _ (by first | omega | (simp only [List.length_cons, List.length_nil, List.length_append]; omega) | fail)), ?_⟩ | refine ⟨_, IntWalk.i64_in _ (by first | omega | (simp only [List.length_cons, List.length_nil, List.length_append]; omega) | fail), ?_⟩ | refine ⟨_, wrap_u8 _, ?_⟩ | refine ⟨_, rfl, ?_⟩ | intro b5 hb5 | fail); (try refine Xc_h ?_); (try (conv => whnf)); repeat (first | refine Hid.seq ?_ | (refine Hid.reg ?_; (conv => whnf)) | refine Hid.regD ?_ | refine Hid.cond rfl ?_ | refine Hid.block ?_ | refine Hid.loop ?_ | (refine Hid.exit ?_; (conv => whnf)) | (refine Hid.ret ?_; (conv => whnf)) | (refine Hid.skip ?_; (conv => whnf)) | (refine Hid.label ?_; (conv => whnf)) | refine Hid.range ?_)))
      refine SIf.y Ty.mixed (decide_eq_true (by rw [hml]; omega)) ?_
      (try refine Xc_h ?_); (try (conv => whnf)); repeat (first | refine Hid.seq ?_ | (refine Hid.reg ?_; (conv => whnf)) | refine Hid.regD ?_ | refine Hid.cond rfl ?_ | refine Hid.block ?_ | refine Hid.loop ?_ | (refine Hid.exit ?_; (conv => whnf)) | (refine Hid.ret ?_; (conv => whnf)) | (refine Hid.skip ?_; (conv => whnf)) | (refine Hid.label ?_; (conv => whnf)) | refine Hid.range ?_)
      repeat' (((first | refine SIf.y Ty.mixed (by first | exact rfl | assumption | fail) ?_ | refine SIf.n Ty.mixed (by first | exact rfl | assumption | fail) ?_ | refine SCond.y (by first | exact rfl | assumption | fail) ?_ | refine SCond.n (by first | exact rfl | assumption | fail) ?_ | refine SPick.y (by first | exact rfl | assumption | fail) ?_ | refine SPick.n (by first | exact rfl | assumption | fail) ?_ | refine SPick.b ?_ | refine SPick.i ?_ | refine SReg.fz 5 hb5 rfl rfl ?_ | refine SLoad.on 0 rfl ?_ | refine SLoad.on 1 rfl ?_ | refine SLoad.on 2 rfl ?_ | refine SLoad.on 3 rfl ?_ | refine SLoad.on 4 rfl ?_ | refine SLoad.on 5 rfl ?_ | refine SStore.on 0 rfl ?_ | refine SStore.on 1 rfl ?_ | refine SStore.on 2 rfl ?_ | refine SStore.on 3 rfl ?_ | refine SStore.on 4 rfl ?_ | refine SStore.on 5 rfl ?_ | refine SBox.f ?_ | refine SCall.p (by first | exact c1 | exact c2 | exact c3 | exact c4 | exact c5 | exact c6 | exact c7) ?_ | fail | refine SApp.c rfl rfl (by first | assumption | exact Moves.more (by assumption) (by assumption) | fail) (by first | (simp only [length_aBytes, List.length_append, List.length_cons, List.length_nil, List.length_map, List.length_range]; omega) | omega | fail) fun tk1 σ1 hm => ?_ | refine SReg.t 0 [] (by decide +kernel) ?_ | refine And.intro (by first | omega | (simp only [List.length_cons, List.length_nil, List.length_append]; omega) | fail) ?_ | refine ⟨_, ⟨by first | omega | (simp only [List.length_cons, List.length_nil, List.length_append]; omega) | fail, by first | exact ⟨by omega, ga⟩ | exact ga⟩, ?_⟩ | refine ⟨_, toBytes_aBytes _, ?_⟩ | refine ⟨_, by repeat (first | exact toB_nil | apply toB_cons | apply toB_consC _ (by first | omega | (simp only [List.length_cons, List.length_nil, List.length_append]; omega) | fail)), ?_⟩ | refine ⟨_, IntWalk.i64_in _ (by first | omega | (simp only [List.length_cons, List.length_nil, List.length_append]; omega) | fail), ?_⟩ | refine ⟨_, wrap_u8 _, ?_⟩ | refine ⟨_, rfl, ?_⟩ | intro b5 hb5 | fail); (try refine Xc_h ?_); (try (conv => whnf)); repeat (first | refine Hid.seq ?_ | (refine Hid.reg ?_; (conv => whnf)) | refine Hid.regD ?_ | refine Hid.cond rfl ?_ | refine Hid.block ?_ | refine Hid.loop ?_ | (refine Hid.exit ?_; (conv => whnf)) | (refine Hid.ret ?_; (conv => whnf)) | (refine Hid.skip ?_; (conv => whnf)) | (refine Hid.label ?_; (conv => whnf)) | refine Hid.range ?_)))
      refine ⟨i + 1, by omega, ?_, .none _, hlt, hle⟩
      show xWeak [(1, .vp (eRep ⟨0, n, l, d⟩)), (3, .str (P ++ (l.take (i + 1)).flatMap showM)), (4, .int .i64 ((i + 1 : Nat) : Int))] _
      rw [hQn]
      have e : Q ++ 32 :: (comT [m.seq, m.tries, m.until_, m.prio] ++ (quoteT m.body ++ [44] ++ quoteT m.attr ++ [44] ++ quoteT m.why)) = ((((((((((((((Q ++ [32]) ++ Lib.itoa m.seq) ++ [44]) ++ Lib.itoa m.tries) ++ [44]) ++ Lib.itoa m.until_) ++ [44]) ++ Lib.itoa m.prio) ++ [44]) ++ quoteT m.body) ++ [44]) ++ quoteT m.attr) ++ [44]) ++ quoteT m.why) := by simp [comT, List.append_assoc]
      rw [e]
      repeat (first | exact trivial | refine ⟨by first | trivial | exact Weak.refl _ | exact Weak.tok _ _ _ | exact Weak.of_eq (congrArg (AV.int _) (by omega)) | exact Weak.of_eq (congrArg AV.bool (by fail)) | exact Weak.nils _ _ (.inr rfl), ?_⟩)
    · have hge : i = l.length := by omega
      subst hge
      rw [List.take_length] at hsl ⊢
      obtain ⟨R, hR⟩ : ∃ R, R = P ++ l.flatMap showM := ⟨_, rfl⟩
      have hRl : R.length ≤ 10000000000000 := by rw [hR, List.length_append]; omega
      rw [← hR]
      (try refine Xc_h ?_); (try (conv => whnf)); repeat (first | refine Hid.seq ?_ | (refine Hid.reg ?_; (conv => whnf)) | refine Hid.regD ?_ | refine Hid.cond rfl ?_ | refine Hid.block ?_ | refine Hid.loop ?_ | (refine Hid.exit ?_; (conv => whnf)) | (refine Hid.ret ?_; (conv => whnf)) | (refine Hid.skip ?_; (conv => whnf)) | (refine Hid.label ?_; (conv => whnf)) | refine Hid.range ?_)
      repeat' (((first | refine SIf.y Ty.mixed (by first | exact rfl | assumption | fail) ?_ | refine SIf.n Ty.mixed (by first | exact rfl | assumption | fail) ?_ | refine SCond.y (by first | exact rfl | assumption | fail) ?_ | refine SCond.n (by first | exact rfl | assumption | fail) ?_ | refine SPick.y (by first | exact rfl | assumption | fail) ?_ | refine SPick.n (by first | exact rfl | assumption | fail) ?_ | refine SPick.b ?_ | refine SPick.i ?_ | refine SReg.fz 5 hb5 rfl rfl ?_ | refine SLoad.on 0 rfl ?_ | refine SLoad.on 1 rfl ?_ | refine SLoad.on 2 rfl ?_ | refine SLoad.on 3 rfl ?_ | refine SLoad.on 4 rfl ?_ | refine SLoad.on 5 rfl ?_ | refine SStore.on 0 rfl ?_ | refine SStore.on 1 rfl ?_ | refine SStore.on 2 rfl ?_ | refine SStore.on 3 rfl ?_ | refine SStore.on 4 rfl ?_ | refine SStore.on 5 rfl ?_ | refine SBox.f ?_ | refine SCall.p (by first | exact c1 | exact c2 | exact c3 | exact c4 | exact c5 | exact c6 | exact c7) ?_ | fail | refine SApp.c rfl rfl (by first | assumption | exact Moves.more (by assumption) (by assumption) | fail) (by first | (simp only [length_aBytes, List.length_append, List.length_cons, List.length_nil, List.length_map, List.length_range]; omega) | omega | fail) fun tk1 σ1 hm => ?_ | refine SReg.t 0 [] (by decide +kernel) ?_ | refine And.intro (by first | omega | (simp only [List.length_cons, List.length_nil, List.length_append]; omega) | fail) ?_ | refine ⟨_, ⟨by first | omega | (simp only [List.length_cons, List.length_nil, List.length_append]; omega) | fail, by first | exact ⟨by omega, ga⟩ | exact ga⟩, ?_⟩ | refine ⟨_, toBytes_aBytes _, ?_⟩ | refine ⟨_, by repeat (first | exact toB_nil | apply toB_cons | apply toB_consC _ (by first | omega | (simp only [List.length_cons, List.length_nil, List.length_append]; omega) | fail)), ?_⟩ | refine ⟨_, IntWalk.i64_in _ (by first | omega | (simp only [List.length_cons, List.length_nil, List.length_append]; omega) | fail), ?_⟩ | refine ⟨_, wrap_u8 _, ?_⟩ | refine ⟨_, rfl, ?_⟩ | intro b5 hb5 | fail); (try refine Xc_h ?_); (try (conv => whnf)); repeat (first | refine Hid.seq ?_ | (refine Hid.reg ?_; (conv => whnf)) | refine Hid.regD ?_ | refine Hid.cond rfl ?_ | refine Hid.block ?_ | refine Hid.loop ?_ | (refine Hid.exit ?_; (conv => whnf)) | (refine Hid.ret ?_; (conv => whnf)) | (refine Hid.skip ?_; (conv => whnf)) | (refine Hid.label ?_; (conv => whnf)) | refine Hid.range ?_)))
      refine SIf.n Ty.mixed (decide_eq_false (by rw [hml]; omega)) ?_
      (try refine Xc_h ?_); (try (conv => whnf)); repeat (first | refine Hid.seq ?_ | (refine Hid.reg ?_; (conv => whnf)) | refine Hid.regD ?_ | refine Hid.cond rfl ?_ | refine Hid.block ?_ | refine Hid.loop ?_ | (refine Hid.exit ?_; (conv => whnf)) | (refine Hid.ret ?_; (conv => whnf)) | (refine Hid.skip ?_; (conv => whnf)) | (refine Hid.label ?_; (conv => whnf)) | refine Hid.range ?_)
      repeat' (((first | refine SIf.y Ty.mixed (by first | exact rfl | assumption | fail) ?_ | refine SIf.n Ty.mixed (by first | exact rfl | assumption | fail) ?_ | refine SCond.y (by first | exact rfl | assumption | fail) ?_ | refine SCond.n (by first | exact rfl | assumption | fail) ?_ | refine SPick.y (by first | exact rfl | assumption | fail) ?_ | refine SPick.n (by first | exact rfl | assumption | fail) ?_ | refine SPick.b ?_ | refine SPick.i ?_ | refine SReg.fz 5 hb5 rfl rfl ?_ | refine SLoad.on 0 rfl ?_ | refine SLoad.on 1 rfl ?_ | refine SLoad.on 2 rfl ?_ | refine SLoad.on 3 rfl ?_ | refine SLoad.on 4 rfl ?_ | refine SLoad.on 5 rfl ?_ | refine SStore.on 0 rfl ?_ | refine SStore.on 1 rfl ?_ | refine SStore.on 2 rfl ?_ | refine SStore.on 3 rfl ?_ | refine SStore.on 4 rfl ?_ | refine SStore.on 5 rfl ?_ | refine SBox.f ?_ | refine SCall.p (by first | exact c1 | exact c2 | exact c3 | exact c4 | exact c5 | exact c6 | exact c7) ?_ | fail | refine SApp.c rfl rfl (by first | assumption | exact Moves.more (by assumption) (by assumption) | fail) (by first | (simp only [length_aBytes, List.length_append, List.length_cons, List.length_nil, List.length_map, List.length_range]; omega) | omega | fail) fun tk1 σ1 hm => ?_ | refine SReg.t 0 [] (by decide +kernel) ?_ | refine And.intro (by first | omega | (simp only [List.length_cons, List.length_nil, List.length_append]; omega) | fail) ?_ | refine ⟨_, ⟨by first | omega | (simp only [List.length_cons, List.length_nil, List.length_append]; omega) | fail, by first | exact ⟨by omega, ga⟩ | exact ga⟩, ?_⟩ | refine ⟨_, toBytes_aBytes _, ?_⟩ | refine ⟨_, by repeat (first | exact toB_nil | apply toB_cons | apply toB_consC _ (by first | omega | (simp only [List.length_cons, List.length_nil, List.length_append]; omega) | fail)), ?_⟩ | refine ⟨_, IntWalk.i64_in _ (by first | omega | (simp only [List.length_cons, List.length_nil, List.length_append]; omega) | fail), ?_⟩ | refine ⟨_, wrap_u8 _, ?_⟩ | refine ⟨_, rfl, ?_⟩ | intro b5 hb5 | fail); (try refine Xc_h ?_); (try (conv => whnf)); repeat (first | refine Hid.seq ?_ | (refine Hid.reg ?_; (conv => whnf)) | refine Hid.regD ?_ | refine Hid.cond rfl ?_ | refine Hid.block ?_ | refine Hid.loop ?_ | (refine Hid.exit ?_; (conv => whnf)) | (refine Hid.ret ?_; (conv => whnf)) | (refine Hid.skip ?_; (conv => whnf)) | (refine Hid.label ?_; (conv => whnf)) | refine Hid.range ?_)))
      have hdl : (aBytes d).length = d.length := bytes_len d
      refine SLoop.by Ty.mixed (fun i : Nat => d.length - i) (fun i => [(1, .vp (eRep ⟨0, n, l, d⟩)), (3, .str (R ++ showD (d.take i))), (6, .int .i64 i)]) (fun _ => []) (fun i s => i ≤ d.length ∧ St.Le σ s) 0 ⟨by show xWeak [(1, .vp (eRep ⟨0, n, l, d⟩)), (3, .str (R ++ showD (d.take 0))), (6, .int .i64 ((0 : Nat) : Int))] _; rw [List.take_zero, show showD [] = [] from rfl, List.append_nil]; repeat (first | exact trivial | refine ⟨by first | trivial | exact Weak.refl _ | exact Weak.tok _ _ _ | exact Weak.of_eq (congrArg (AV.int _) (by omega)) | exact Weak.of_eq (congrArg AV.bool (by fail)) | exact Weak.nils _ _ (.inr rfl), ?_⟩), .none _, Nat.zero_le _, hle⟩ ?_
      · rintro i s ⟨hi, hls⟩
        by_cases hlt : i < d.length
        · have gc : (aBytes d)[((i : Int)).toNat]? = some (.int .u8 d[i].toNat) := by simp [aBytes, aByte, hlt]
          have hx2 := hexs_len (d.take i)
          have htl2 : (d.take i).length = i := by rw [List.length_take]; omega
          have hdx : (d.take (i + 1)).flatMap hexT = (d.take i).flatMap hexT ++ hexT d[i] := by
            rw [List.take_succ_eq_append_getElem hlt, List.flatMap_append]; simp
          have hne1 : d.take (i + 1) ≠ [] := fun e => by
            have h1 : (d.take (i + 1)).length = i + 1 := by rw [List.length_take]; omega
            rw [e] at h1
            simp at h1
          have hs1 : showD (d.take (i + 1)) = [32, 35] ++ (d.take (i + 1)).flatMap hexT := by rw [showD, if_neg hne1]
          rw [hdx, hexT] at hs1
          generalize d[i] = c at *
          have hc := c.toNat_lt
          have h16 : (c.toNat : Int) / 16 = ((c.toNat / 16 : Nat) : Int) := by omega
          have m16 : (c.toNat : Int) % 16 = ((c.toNat % 16 : Nat) : Int) := by omega
          have b1 : (Al.byteOf ((c.toNat : Int) / 16 + 1)).toNat = c.toNat / 16 + 1 := byte_in (by omega) (by omega)
          have b2 : (Al.byteOf ((c.toNat : Int) % 16 + 1)).toNat = c.toNat % 16 + 1 := byte_in (by omega) (by omega)
          have s1 : List.drop ((c.toNat : Int) / 16).toNat (List.take (((Al.byteOf ((c.toNat : Int) / 16 + 1)).toNat : Nat) : Int).toNat digitsL) = [hexD (c.toNat / 16)] := by
            rw [b1, h16]; exact hex_cut (by omega)
          have s2 : List.drop ((c.toNat : Int) % 16).toNat (List.take (((Al.byteOf ((c.toNat : Int) % 16 + 1)).toNat : Nat) : Int).toNat digitsL) = [hexD (c.toNat % 16)] := by
            rw [b2, m16]; exact hex_cut (by omega)
          by_cases hi0 : i = 0
          · subst hi0
            rw [List.take_zero] at hs1 ⊢
            rw [show showD [] = [] from rfl, List.append_nil]
            (try refine Xc_h ?_); (try (conv => whnf)); repeat (first | refine Hid.seq ?_ | (refine Hid.reg ?_; (conv => whnf)) | refine Hid.regD ?_ | refine Hid.cond rfl ?_ | refine Hid.block ?_ | refine Hid.loop ?_ | (refine Hid.exit ?_; (conv => whnf)) | (refine Hid.ret ?_; (conv => whnf)) | (refine Hid.skip ?_; (conv => whnf)) | (refine Hid.label ?_; (conv => whnf)) | refine Hid.range ?_)
            repeat' (((first | refine SIf.y Ty.mixed (by first | exact rfl | assumption | fail) ?_ | refine SIf.n Ty.mixed (by first | exact rfl | assumption | fail) ?_ | refine SCond.y (by first | exact rfl | assumption | fail) ?_ | refine SCond.n (by first | exact rfl | assumption | fail) ?_ | refine SPick.y (by first | exact rfl | assumption | fail) ?_ | refine SPick.n (by first | exact rfl | assumption | fail) ?_ | refine SPick.b ?_ | refine SPick.i ?_ | fail | refine SLoad.on 0 rfl ?_ | refine SLoad.on 1 rfl ?_ | refine SLoad.on 2 rfl ?_ | refine SLoad.on 3 rfl ?_ | refine SLoad.on 4 rfl ?_ | refine SLoad.on 5 rfl ?_ | refine SStore.on 0 rfl ?_ | refine SStore.on 1 rfl ?_ | refine SStore.on 2 rfl ?_ | refine SStore.on 3 rfl ?_ | refine SStore.on 4 rfl ?_ | refine SStore.on 5 rfl ?_ | refine SBox.f ?_ | refine SCall.p (by first | exact c1 | exact c2 | exact c3 | exact c4 | exact c5 | exact c6 | exact c7) ?_ | fail | refine SApp.c rfl rfl (by first | assumption | exact Moves.more (by assumption) (by assumption) | fail) (by first | (simp only [length_aBytes, List.length_append, List.length_cons, List.length_nil, List.length_map, List.length_range]; omega) | omega | fail) fun tk1 σ1 hm => ?_ | refine SReg.t 0 [] (by decide +kernel) ?_ | refine And.intro (by first | omega | (simp only [List.length_cons, List.length_nil, List.length_append, List.length_drop, List.length_take]; omega) | (refine ⟨by omega, by omega, ?_⟩; show _ ≤ (16 : Int); omega) | fail) ?_ | refine ⟨_, ⟨by first | omega | (simp only [List.length_cons, List.length_nil, List.length_append, List.length_drop, List.length_take]; omega) | (refine ⟨by omega, by omega, ?_⟩; show _ ≤ (16 : Int); omega) | fail, by first | exact ⟨by omega, gc⟩ | exact gc⟩, ?_⟩ | refine ⟨_, toBytes_aBytes _, ?_⟩ | refine ⟨_, by repeat (first | exact toB_nil | apply toB_cons | apply toB_consC _ (by first | omega | (simp only [List.length_cons, List.length_nil, List.length_append, List.length_drop, List.length_take]; omega) | (refine ⟨by omega, by omega, ?_⟩; show _ ≤ (16 : Int); omega) | fail)), ?_⟩ | refine ⟨_, IntWalk.i64_in _ (by first | omega | (simp only [List.length_cons, List.length_nil, List.length_append, List.length_drop, List.length_take]; omega) | (refine ⟨by omega, by omega, ?_⟩; show _ ≤ (16 : Int); omega) | fail), ?_⟩ | refine ⟨_, wrap_u8 _, ?_⟩ | refine ⟨_, rfl, ?_⟩ | intro b5 hb5 | fail); (try refine Xc_h ?_); (try (conv => whnf)); repeat (first | refine Hid.seq ?_ | (refine Hid.reg ?_; (conv => whnf)) | refine Hid.regD ?_ | refine Hid.cond rfl ?_ | refine Hid.block ?_ | refine Hid.loop ?_ | (refine Hid.exit ?_; (conv => whnf)) | (refine Hid.ret ?_; (conv => whnf)) | (refine Hid.skip ?_; (conv => whnf)) | (refine Hid.label ?_; (conv => whnf)) | refine Hid.range ?_)))
            refine SIf.y Ty.mixed (decide_eq_true (by rw [hdl]; omega)) ?_
            (try refine Xc_h ?_); (try (conv => whnf)); repeat (first | refine Hid.seq ?_ | (refine Hid.reg ?_; (conv => whnf)) | refine Hid.regD ?_ | refine Hid.cond rfl ?_ | refine Hid.block ?_ | refine Hid.loop ?_ | (refine Hid.exit ?_; (conv => whnf)) | (refine Hid.ret ?_; (conv => whnf)) | (refine Hid.skip ?_; (conv => whnf)) | (refine Hid.label ?_; (conv => whnf)) | refine Hid.range ?_)
            repeat' (((first | refine SIf.y Ty.mixed (by first | exact rfl | assumption | fail) ?_ | refine SIf.n Ty.mixed (by first | exact rfl | assumption | fail) ?_ | refine SCond.y (by first | exact rfl | assumption | fail) ?_ | refine SCond.n (by first | exact rfl | assumption | fail) ?_ | refine SPick.y (by first | exact rfl | assumption | fail) ?_ | refine SPick.n (by first | exact rfl | assumption | fail) ?_ | refine SPick.b ?_ | refine SPick.i ?_ | fail | refine SLoad.on 0 rfl ?_ | refine SLoad.on 1 rfl ?_ | refine SLoad.on 2 rfl ?_ | refine SLoad.on 3 rfl ?_ | refine SLoad.on 4 rfl ?_ | refine SLoad.on 5 rfl ?_ | refine SStore.on 0 rfl ?_ | refine SStore.on 1 rfl ?_ | refine SStore.on 2 rfl ?_ | refine SStore.on 3 rfl ?_ | refine SStore.on 4 rfl ?_ | refine SStore.on 5 rfl ?_ | refine SBox.f ?_ | refine SCall.p (by first | exact c1 | exact c2 | exact c3 | exact c4 | exact c5 | exact c6 | exact c7) ?_ | fail | refine SApp.c rfl rfl (by first | assumption | exact Moves.more (by assumption) (by assumption) | fail) (by first | (simp only [length_aBytes, List.length_append, List.length_cons, List.length_nil, List.length_map, List.length_range]; omega) | omega | fail) fun tk1 σ1 hm => ?_ | refine SReg.t 0 [] (by decide +kernel) ?_ | refine And.intro (by first | omega | (simp only [List.length_cons, List.length_nil, List.length_append, List.length_drop, List.length_take]; omega) | (refine ⟨by omega, by omega, ?_⟩; show _ ≤ (16 : Int); omega) | fail) ?_ | refine ⟨_, ⟨by first | omega | (simp only [List.length_cons, List.length_nil, List.length_append, List.length_drop, List.length_take]; omega) | (refine ⟨by omega, by omega, ?_⟩; show _ ≤ (16 : Int); omega) | fail, by first | exact ⟨by omega, gc⟩ | exact gc⟩, ?_⟩ | refine ⟨_, toBytes_aBytes _, ?_⟩ | refine ⟨_, by repeat (first | exact toB_nil | apply toB_cons | apply toB_consC _ (by first | omega | (simp only [List.length_cons, List.length_nil, List.length_append, List.length_drop, List.length_take]; omega) | (refine ⟨by omega, by omega, ?_⟩; show _ ≤ (16 : Int); omega) | fail)), ?_⟩ | refine ⟨_, IntWalk.i64_in _ (by first | omega | (simp only [List.length_cons, List.length_nil, List.length_append, List.length_drop, List.length_take]; omega) | (refine ⟨by omega, by omega, ?_⟩; show _ ≤ (16 : Int); omega) | fail), ?_⟩ | refine ⟨_, wrap_u8 _, ?_⟩ | refine ⟨_, rfl, ?_⟩ | intro b5 hb5 | fail); (try refine Xc_h ?_); (try (conv => whnf)); repeat (first | refine Hid.seq ?_ | (refine Hid.reg ?_; (conv => whnf)) | refine Hid.regD ?_ | refine Hid.cond rfl ?_ | refine Hid.block ?_ | refine Hid.loop ?_ | (refine Hid.exit ?_; (conv => whnf)) | (refine Hid.ret ?_; (conv => whnf)) | (refine Hid.skip ?_; (conv => whnf)) | (refine Hid.label ?_; (conv => whnf)) | refine Hid.range ?_)))
            refine ⟨0 + 1, by omega, ?_, .none _, hlt, hls⟩
            show xWeak [(1, .vp (eRep ⟨0, n, l, d⟩)), (3, .str (R ++ showD (d.take (0 + 1)))), (6, .int .i64 ((0 + 1 : Nat) : Int))] _
            have e : R ++ showD (d.take (0 + 1)) = ((R ++ [32, 35]) ++ List.drop ((c.toNat : Int) / 16).toNat (List.take (((Al.byteOf ((c.toNat : Int) / 16 + 1)).toNat : Nat) : Int).toNat digitsL)) ++ List.drop ((c.toNat : Int) % 16).toNat (List.take (((Al.byteOf ((c.toNat : Int) % 16 + 1)).toNat : Nat) : Int).toNat digitsL) := by rw [s1, s2, hs1]; simp
            rw [e]
            repeat (first | exact trivial | refine ⟨by first | trivial | exact Weak.refl _ | exact Weak.tok _ _ _ | exact Weak.of_eq (congrArg (AV.int _) (by omega)) | exact Weak.of_eq (congrArg AV.bool (by fail)) | exact Weak.nils _ _ (.inr rfl), ?_⟩)
          · have hne0 : d.take i ≠ [] := fun e => by
              have := congrArg List.length e
              rw [htl2] at this
              simp at this
              omega
            rw [showD, if_neg hne0]
            have d0 : decide ((i : Int) = 0) = false := decide_eq_false (by omega)
            (try refine Xc_h ?_); (try (conv => whnf)); repeat (first | refine Hid.seq ?_ | (refine Hid.reg ?_; (conv => whnf)) | refine Hid.regD ?_ | refine Hid.cond rfl ?_ | refine Hid.block ?_ | refine Hid.loop ?_ | (refine Hid.exit ?_; (conv => whnf)) | (refine Hid.ret ?_; (conv => whnf)) | (refine Hid.skip ?_; (conv => whnf)) | (refine Hid.label ?_; (conv => whnf)) | refine Hid.range ?_)
            repeat' (((first | refine SIf.y Ty.mixed (by first | exact rfl | assumption | fail) ?_ | refine SIf.n Ty.mixed (by first | exact rfl | assumption | fail) ?_ | refine SCond.y (by first | exact rfl | assumption | fail) ?_ | refine SCond.n (by first | exact rfl | assumption | fail) ?_ | refine SPick.y (by first | exact rfl | assumption | fail) ?_ | refine SPick.n (by first | exact rfl | assumption | fail) ?_ | refine SPick.b ?_ | refine SPick.i ?_ | fail | refine SLoad.on 0 rfl ?_ | refine SLoad.on 1 rfl ?_ | refine SLoad.on 2 rfl ?_ | refine SLoad.on 3 rfl ?_ | refine SLoad.on 4 rfl ?_ | refine SLoad.on 5 rfl ?_ | refine SStore.on 0 rfl ?_ | refine SStore.on 1 rfl ?_ | refine SStore.on 2 rfl ?_ | refine SStore.on 3 rfl ?_ | refine SStore.on 4 rfl ?_ | refine SStore.on 5 rfl ?_ | refine SBox.f ?_ | refine SCall.p (by first | exact c1 | exact c2 | exact c3 | exact c4 | exact c5 | exact c6 | exact c7) ?_ | fail | refine SApp.c rfl rfl (by first | assumption | exact Moves.more (by assumption) (by assumption) | fail) (by first | (simp only [length_aBytes, List.length_append, List.length_cons, List.length_nil, List.length_map, List.length_range]; omega) | omega | fail) fun tk1 σ1 hm => ?_ | refine SReg.t 0 [] (by decide +kernel) ?_ | refine And.intro (by first | omega | (simp only [List.length_cons, List.length_nil, List.length_append, List.length_drop, List.length_take]; omega) | (refine ⟨by omega, by omega, ?_⟩; show _ ≤ (16 : Int); omega) | fail) ?_ | refine ⟨_, ⟨by first | omega | (simp only [List.length_cons, List.length_nil, List.length_append, List.length_drop, List.length_take]; omega) | (refine ⟨by omega, by omega, ?_⟩; show _ ≤ (16 : Int); omega) | fail, by first | exact ⟨by omega, gc⟩ | exact gc⟩, ?_⟩ | refine ⟨_, toBytes_aBytes _, ?_⟩ | refine ⟨_, by repeat (first | exact toB_nil | apply toB_cons | apply toB_consC _ (by first | omega | (simp only [List.length_cons, List.length_nil, List.length_append, List.length_drop, List.length_take]; omega) | (refine ⟨by omega, by omega, ?_⟩; show _ ≤ (16 : Int); omega) | fail)), ?_⟩ | refine ⟨_, IntWalk.i64_in _ (by first | omega | (simp only [List.length_cons, List.length_nil, List.length_append, List.length_drop, List.length_take]; omega) | (refine ⟨by omega, by omega, ?_⟩; show _ ≤ (16 : Int); omega) | fail), ?_⟩ | refine ⟨_, wrap_u8 _, ?_⟩ | refine ⟨_, rfl, ?_⟩ | intro b5 hb5 | fail); (try refine Xc_h ?_); (try (conv => whnf)); repeat (first | refine Hid.seq ?_ | (refine Hid.reg ?_; (conv => whnf)) | refine Hid.regD ?_ | refine Hid.cond rfl ?_ | refine Hid.block ?_ | refine Hid.loop ?_ | (refine Hid.exit ?_; (conv => whnf)) | (refine Hid.ret ?_; (conv => whnf)) | (refine Hid.skip ?_; (conv => whnf)) | (refine Hid.label ?_; (conv => whnf)) | refine Hid.range ?_)))
            refine SIf.y Ty.mixed (decide_eq_true (by rw [hdl]; omega)) ?_
            (try refine Xc_h ?_); (try (conv => whnf)); repeat (first | refine Hid.seq ?_ | (refine Hid.reg ?_; (conv => whnf)) | refine Hid.regD ?_ | refine Hid.cond rfl ?_ | refine Hid.block ?_ | refine Hid.loop ?_ | (refine Hid.exit ?_; (conv => whnf)) | (refine Hid.ret ?_; (conv => whnf)) | (refine Hid.skip ?_; (conv => whnf)) | (refine Hid.label ?_; (conv => whnf)) | refine Hid.range ?_)
            repeat' (((first | refine SIf.y Ty.mixed (by first | exact rfl | assumption | fail) ?_ | refine SIf.n Ty.mixed (by first | exact rfl | assumption | fail) ?_ | refine SCond.y (by first | exact rfl | assumption | fail) ?_ | refine SCond.n (by first | exact rfl | assumption | fail) ?_ | refine SPick.y (by first | exact rfl | assumption | fail) ?_ | refine SPick.n (by first | exact rfl | assumption | fail) ?_ | refine SPick.b ?_ | refine SPick.i ?_ | fail | refine SLoad.on 0 rfl ?_ | refine SLoad.on 1 rfl ?_ | refine SLoad.on 2 rfl ?_ | refine SLoad.on 3 rfl ?_ | refine SLoad.on 4 rfl ?_ | refine SLoad.on 5 rfl ?_ | refine SStore.on 0 rfl ?_ | refine SStore.on 1 rfl ?_ | refine SStore.on 2 rfl ?_ | refine SStore.on 3 rfl ?_ | refine SStore.on 4 rfl ?_ | refine SStore.on 5 rfl ?_ | refine SBox.f ?_ | refine SCall.p (by first | exact c1 | exact c2 | exact c3 | exact c4 | exact c5 | exact c6 | exact c7) ?_ | fail | refine SApp.c rfl rfl (by first | assumption | exact Moves.more (by assumption) (by assumption) | fail) (by first | (simp only [length_aBytes, List.length_append, List.length_cons, List.length_nil, List.length_map, List.length_range]; omega) | omega | fail) fun tk1 σ1 hm => ?_ | refine SReg.t 0 [] (by decide +kernel) ?_ | refine And.intro (by first | omega | (simp only [List.length_cons, List.length_nil, List.length_append, List.length_drop, List.length_take]; omega) | (refine ⟨by omega, by omega, ?_⟩; show _ ≤ (16 : Int); omega) | fail) ?_ | refine ⟨_, ⟨by first | omega | (simp only [List.length_cons, List.length_nil, List.length_append, List.length_drop, List.length_take]; omega) | (refine ⟨by omega, by omega, ?_⟩; show _ ≤ (16 : Int); omega) | fail, by first | exact ⟨by omega, gc⟩ | exact gc⟩, ?_⟩ | refine ⟨_, toBytes_aBytes _, ?_⟩ | refine ⟨_, by repeat (first | exact toB_nil | apply toB_cons | apply toB_consC _ (by first | omega | (simp only [List.length_cons, List.length_nil, List.length_append, List.length_drop, List.length_take]; omega) | (refine ⟨by omega, by omega, ?_⟩; show _ ≤ (16 : Int); omega) | fail)), ?_⟩ | refine ⟨_, IntWalk.i64_in _ (by first | omega | (simp only [List.length_cons, List.length_nil, List.length_append, List.length_drop, List.length_take]; omega) | (refine ⟨by omega, by omega, ?_⟩; show _ ≤ (16 : Int); omega) | fail), ?_⟩ | refine ⟨_, wrap_u8 _, ?_⟩ | refine ⟨_, rfl, ?_⟩ | intro b5 hb5 | fail); (try refine Xc_h ?_); (try (conv => whnf)); repeat (first | refine Hid.seq ?_ | (refine Hid.reg ?_; (conv => whnf)) | refine Hid.regD ?_ | refine Hid.cond rfl ?_ | refine Hid.block ?_ | refine Hid.loop ?_ | (refine Hid.exit ?_; (conv => whnf)) | (refine Hid.ret ?_; (conv => whnf)) | (refine Hid.skip ?_; (conv => whnf)) | (refine Hid.label ?_; (conv => whnf)) | refine Hid.range ?_)))
            refine ⟨i + 1, by omega, ?_, .none _, hlt, hls⟩
            show xWeak [(1, .vp (eRep ⟨0, n, l, d⟩)), (3, .str (R ++ showD (d.take (i + 1)))), (6, .int .i64 ((i + 1 : Nat) : Int))] _
            have e : R ++ showD (d.take (i + 1)) = ((R ++ ([32, 35] ++ (d.take i).flatMap hexT)) ++ List.drop ((c.toNat : Int) / 16).toNat (List.take (((Al.byteOf ((c.toNat : Int) / 16 + 1)).toNat : Nat) : Int).toNat digitsL)) ++ List.drop ((c.toNat : Int) % 16).toNat (List.take (((Al.byteOf ((c.toNat : Int) % 16 + 1)).toNat : Nat) : Int).toNat digitsL) := by rw [s1, s2, hs1]; simp
            rw [e]
            repeat (first | exact trivial | refine ⟨by first | trivial | exact Weak.refl _ | exact Weak.tok _ _ _ | exact Weak.of_eq (congrArg (AV.int _) (by omega)) | exact Weak.of_eq (congrArg AV.bool (by fail)) | exact Weak.nils _ _ (.inr rfl), ?_⟩)
        · have hge : i = d.length := by omega
          subst hge
          rw [List.take_length]
          (try refine Xc_h ?_); (try (conv => whnf)); repeat (first | refine Hid.seq ?_ | (refine Hid.reg ?_; (conv => whnf)) | refine Hid.regD ?_ | refine Hid.cond rfl ?_ | refine Hid.block ?_ | refine Hid.loop ?_ | (refine Hid.exit ?_; (conv => whnf)) | (refine Hid.ret ?_; (conv => whnf)) | (refine Hid.skip ?_; (conv => whnf)) | (refine Hid.label ?_; (conv => whnf)) | refine Hid.range ?_)
          repeat' (((first | refine SIf.y Ty.mixed (by first | exact rfl | assumption | fail) ?_ | refine SIf.n Ty.mixed (by first | exact rfl | assumption | fail) ?_ | refine SCond.y (by first | exact rfl | assumption | fail) ?_ | refine SCond.n (by first | exact rfl | assumption | fail) ?_ | refine SPick.y (by first | exact rfl | assumption | fail) ?_ | refine SPick.n (by first | exact rfl | assumption | fail) ?_ | refine SPick.b ?_ | refine SPick.i ?_ | fail | refine SLoad.on 0 rfl ?_ | refine SLoad.on 1 rfl ?_ | refine SLoad.on 2 rfl ?_ | refine SLoad.on 3 rfl ?_ | refine SLoad.on 4 rfl ?_ | refine SLoad.on 5 rfl ?_ | refine SStore.on 0 rfl ?_ | refine SStore.on 1 rfl ?_ | refine SStore.on 2 rfl ?_ | refine SStore.on 3 rfl ?_ | refine SStore.on 4 rfl ?_ | refine SStore.on 5 rfl ?_ | refine SBox.f ?_ | refine SCall.p (by first | exact c1 | exact c2 | exact c3 | exact c4 | exact c5 | exact c6 | exact c7) ?_ | fail | refine SApp.c rfl rfl (by first | assumption | exact Moves.more (by assumption) (by assumption) | fail) (by first | (simp only [length_aBytes, List.length_append, List.length_cons, List.length_nil, List.length_map, List.length_range]; omega) | omega | fail) fun tk1 σ1 hm => ?_ | refine SReg.t 0 [] (by decide +kernel) ?_ | refine And.intro (by first | omega | (simp only [List.length_cons, List.length_nil, List.length_append, List.length_drop, List.length_take]; omega) | (refine ⟨by omega, by omega, ?_⟩; show _ ≤ (16 : Int); omega) | fail) ?_ | refine ⟨_, ⟨by first | omega | (simp only [List.length_cons, List.length_nil, List.length_append, List.length_drop, List.length_take]; omega) | (refine ⟨by omega, by omega, ?_⟩; show _ ≤ (16 : Int); omega) | fail, by first | exact ⟨by omega, gc⟩ | exact gc⟩, ?_⟩ | refine ⟨_, toBytes_aBytes _, ?_⟩ | refine ⟨_, by repeat (first | exact toB_nil | apply toB_cons | apply toB_consC _ (by first | omega | (simp only [List.length_cons, List.length_nil, List.length_append, List.length_drop, List.length_take]; omega) | (refine ⟨by omega, by omega, ?_⟩; show _ ≤ (16 : Int); omega) | fail)), ?_⟩ | refine ⟨_, IntWalk.i64_in _ (by first | omega | (simp only [List.length_cons, List.length_nil, List.length_append, List.length_drop, List.length_take]; omega) | (refine ⟨by omega, by omega, ?_⟩; show _ ≤ (16 : Int); omega) | fail), ?_⟩ | refine ⟨_, wrap_u8 _, ?_⟩ | refine ⟨_, rfl, ?_⟩ | intro b5 hb5 | fail); (try refine Xc_h ?_); (try (conv => whnf)); repeat (first | refine Hid.seq ?_ | (refine Hid.reg ?_; (conv => whnf)) | refine Hid.regD ?_ | refine Hid.cond rfl ?_ | refine Hid.block ?_ | refine Hid.loop ?_ | (refine Hid.exit ?_; (conv => whnf)) | (refine Hid.ret ?_; (conv => whnf)) | (refine Hid.skip ?_; (conv => whnf)) | (refine Hid.label ?_; (conv => whnf)) | refine Hid.range ?_)))
          refine SIf.n Ty.mixed (decide_eq_false (by rw [hdl]; omega)) ?_
          (try refine Xc_h ?_); (try (conv => whnf)); repeat (first | refine Hid.seq ?_ | (refine Hid.reg ?_; (conv => whnf)) | refine Hid.regD ?_ | refine Hid.cond rfl ?_ | refine Hid.block ?_ | refine Hid.loop ?_ | (refine Hid.exit ?_; (conv => whnf)) | (refine Hid.ret ?_; (conv => whnf)) | (refine Hid.skip ?_; (conv => whnf)) | (refine Hid.label ?_; (conv => whnf)) | refine Hid.range ?_)
          repeat' (((first | refine SIf.y Ty.mixed (by first | exact rfl | assumption | fail) ?_ | refine SIf.n Ty.mixed (by first | exact rfl | assumption | fail) ?_ | refine SCond.y (by first | exact rfl | assumption | fail) ?_ | refine SCond.n (by first | exact rfl | assumption | fail) ?_ | refine SPick.y (by first | exact rfl | assumption | fail) ?_ | refine SPick.n (by first | exact rfl | assumption | fail) ?_ | refine SPick.b ?_ | refine SPick.i ?_ | fail | refine SLoad.on 0 rfl ?_ | refine SLoad.on 1 rfl ?_ | refine SLoad.on 2 rfl ?_ | refine SLoad.on 3 rfl ?_ | refine SLoad.on 4 rfl ?_ | refine SLoad.on 5 rfl ?_ | refine SStore.on 0 rfl ?_ | refine SStore.on 1 rfl ?_ | refine SStore.on 2 rfl ?_ | refine SStore.on 3 rfl ?_ | refine SStore.on 4 rfl ?_ | refine SStore.on 5 rfl ?_ | refine SBox.f ?_ | refine SCall.p (by first | exact c1 | exact c2 | exact c3 | exact c4 | exact c5 | exact c6 | exact c7) ?_ | fail | refine SApp.c rfl rfl (by first | assumption | exact Moves.more (by assumption) (by assumption) | fail) (by first | (simp only [length_aBytes, List.length_append, List.length_cons, List.length_nil, List.length_map, List.length_range]; omega) | omega | fail) fun tk1 σ1 hm => ?_ | refine SReg.t 0 [] (by decide +kernel) ?_ | refine And.intro (by first | omega | (simp only [List.length_cons, List.length_nil, List.length_append, List.length_drop, List.length_take]; omega) | (refine ⟨by omega, by omega, ?_⟩; show _ ≤ (16 : Int); omega) | fail) ?_ | refine ⟨_, ⟨by first | omega | (simp only [List.length_cons, List.length_nil, List.length_append, List.length_drop, List.length_take]; omega) | (refine ⟨by omega, by omega, ?_⟩; show _ ≤ (16 : Int); omega) | fail, by first | exact ⟨by omega, gc⟩ | exact gc⟩, ?_⟩ | refine ⟨_, toBytes_aBytes _, ?_⟩ | refine ⟨_, by repeat (first | exact toB_nil | apply toB_cons | apply toB_consC _ (by first | omega | (simp only [List.length_cons, List.length_nil, List.length_append, List.length_drop, List.length_take]; omega) | (refine ⟨by omega, by omega, ?_⟩; show _ ≤ (16 : Int); omega) | fail)), ?_⟩ | refine ⟨_, IntWalk.i64_in _ (by first | omega | (simp only [List.length_cons, List.length_nil, List.length_append, List.length_drop, List.length_take]; omega) | (refine ⟨by omega, by omega, ?_⟩; show _ ≤ (16 : Int); omega) | fail), ?_⟩ | refine ⟨_, wrap_u8 _, ?_⟩ | refine ⟨_, rfl, ?_⟩ | intro b5 hb5 | fail); (try refine Xc_h ?_); (try (conv => whnf)); repeat (first | refine Hid.seq ?_ | (refine Hid.reg ?_; (conv => whnf)) | refine Hid.regD ?_ | refine Hid.cond rfl ?_ | refine Hid.block ?_ | refine Hid.loop ?_ | (refine Hid.exit ?_; (conv => whnf)) | (refine Hid.ret ?_; (conv => whnf)) | (refine Hid.skip ?_; (conv => whnf)) | (refine Hid.label ?_; (conv => whnf)) | refine Hid.range ?_)))
          exact .p hls rfl
  · rw [showT, if_pos he]
    (try refine Xc_h ?_); (try (conv => whnf)); repeat (first | refine Hid.seq ?_ | (refine Hid.reg ?_; (conv => whnf)) | refine Hid.regD ?_ | refine Hid.cond rfl ?_ | refine Hid.block ?_ | refine Hid.loop ?_ | (refine Hid.exit ?_; (conv => whnf)) | (refine Hid.ret ?_; (conv => whnf)) | (refine Hid.skip ?_; (conv => whnf)) | (refine Hid.label ?_; (conv => whnf)) | refine Hid.range ?_)
    repeat' (((first | refine SIf.y Ty.mixed (by first | exact rfl | assumption | fail) ?_ | refine SIf.n Ty.mixed (by first | exact rfl | assumption | fail) ?_ | refine SCond.y (by first | exact rfl | assumption | fail) ?_ | refine SCond.n (by first | exact rfl | assumption | fail) ?_ | refine SPick.y (by first | exact rfl | assumption | fail) ?_ | refine SPick.n (by first | exact rfl | assumption | fail) ?_ | refine SPick.b ?_ | refine SPick.i ?_ | refine ⟨_, hwr, ?_⟩ | refine SLoad.on 0 rfl ?_ | refine SLoad.on 1 rfl ?_ | refine SLoad.on 2 rfl ?_ | refine SLoad.on 3 rfl ?_ | refine SLoad.on 4 rfl ?_ | refine SLoad.on 5 rfl ?_ | refine SStore.on 0 rfl ?_ | refine SStore.on 1 rfl ?_ | refine SStore.on 2 rfl ?_ | refine SStore.on 3 rfl ?_ | refine SStore.on 4 rfl ?_ | refine SStore.on 5 rfl ?_ | refine SBox.f ?_ | refine SCall.p (by exact hi1) ?_ | fail | refine SApp.c rfl rfl (by first | assumption | exact Moves.more (by assumption) (by assumption) | fail) (by first | (simp only [length_aBytes, List.length_append, List.length_cons, List.length_nil, List.length_map, List.length_range]; omega) | omega | fail) fun tk1 σ1 hm => ?_ | refine SReg.t 0 [] (by decide +kernel) ?_ | refine And.intro (by first | omega | (simp only [List.length_cons, List.length_nil, List.length_append, List.length_drop, List.length_take]; omega) | (refine ⟨by omega, by omega, ?_⟩; show _ ≤ (16 : Int); omega) | fail) ?_ | refine ⟨_, ⟨by first | omega | (simp only [List.length_cons, List.length_nil, List.length_append, List.length_drop, List.length_take]; omega) | (refine ⟨by omega, by omega, ?_⟩; show _ ≤ (16 : Int); omega) | fail, by first | exact ⟨by omega, gc⟩ | exact gc⟩, ?_⟩ | refine ⟨_, toBytes_aBytes _, ?_⟩ | refine ⟨_, by repeat (first | exact toB_nil | apply toB_cons | apply toB_consC _ (by first | omega | (simp only [List.length_cons, List.length_nil, List.length_append, List.length_drop, List.length_take]; omega) | (refine ⟨by omega, by omega, ?_⟩; show _ ≤ (16 : Int); omega) | fail)), ?_⟩ | refine ⟨_, IntWalk.i64_in _ (by first | omega | (simp only [List.length_cons, List.length_nil, List.length_append, List.length_drop, List.length_take]; omega) | (refine ⟨by omega, by omega, ?_⟩; show _ ≤ (16 : Int); omega) | fail), ?_⟩ | refine ⟨_, wrap_u8 _, ?_⟩ | refine ⟨_, rfl, ?_⟩ | intro b5 hb5 | fail); (try refine Xc_h ?_); (try (conv => whnf)); repeat (first | refine Hid.seq ?_ | (refine Hid.reg ?_; (conv => whnf)) | refine Hid.regD ?_ | refine Hid.cond rfl ?_ | refine Hid.block ?_ | refine Hid.loop ?_ | (refine Hid.exit ?_; (conv => whnf)) | (refine Hid.ret ?_; (conv => whnf)) | (refine Hid.skip ?_; (conv => whnf)) | (refine Hid.label ?_; (conv => whnf)) | refine Hid.range ?_)))
    refine SIf.y Ty.mixed (by simp [he]) ?_
    (try refine Xc_h ?_); (try (conv => whnf)); repeat (first | refine Hid.seq ?_ | (refine Hid.reg ?_; (conv => whnf)) | refine Hid.regD ?_ | refine Hid.cond rfl ?_ | refine Hid.block ?_ | refine Hid.loop ?_ | (refine Hid.exit ?_; (conv => whnf)) | (refine Hid.ret ?_; (conv => whnf)) | (refine Hid.skip ?_; (conv => whnf)) | (refine Hid.label ?_; (conv => whnf)) | refine Hid.range ?_)
    repeat' (((first | refine SIf.y Ty.mixed (by first | exact rfl | assumption | fail) ?_ | refine SIf.n Ty.mixed (by first | exact rfl | assumption | fail) ?_ | refine SCond.y (by first | exact rfl | assumption | fail) ?_ | refine SCond.n (by first | exact rfl | assumption | fail) ?_ | refine SPick.y (by first | exact rfl | assumption | fail) ?_ | refine SPick.n (by first | exact rfl | assumption | fail) ?_ | refine SPick.b ?_ | refine SPick.i ?_ | refine ⟨_, hwr, ?_⟩ | refine SLoad.on 0 rfl ?_ | refine SLoad.on 1 rfl ?_ | refine SLoad.on 2 rfl ?_ | refine SLoad.on 3 rfl ?_ | refine SLoad.on 4 rfl ?_ | refine SLoad.on 5 rfl ?_ | refine SStore.on 0 rfl ?_ | refine SStore.on 1 rfl ?_ | refine SStore.on 2 rfl ?_ | refine SStore.on 3 rfl ?_ | refine SStore.on 4 rfl ?_ | refine SStore.on 5 rfl ?_ | refine SBox.f ?_ | refine SCall.p (by exact hi1) ?_ | fail | refine SApp.c rfl rfl (by first | assumption | exact Moves.more (by assumption) (by assumption) | fail) (by first | (simp only [length_aBytes, List.length_append, List.length_cons, List.length_nil, List.length_map, List.length_range]; omega) | omega | fail) fun tk1 σ1 hm => ?_ | refine SReg.t 0 [] (by decide +kernel) ?_ | refine And.intro (by first | omega | (simp only [List.length_cons, List.length_nil, List.length_append, List.length_drop, List.length_take]; omega) | (refine ⟨by omega, by omega, ?_⟩; show _ ≤ (16 : Int); omega) | fail) ?_ | refine ⟨_, ⟨by first | omega | (simp only [List.length_cons, List.length_nil, List.length_append, List.length_drop, List.length_take]; omega) | (refine ⟨by omega, by omega, ?_⟩; show _ ≤ (16 : Int); omega) | fail, by first | exact ⟨by omega, gc⟩ | exact gc⟩, ?_⟩ | refine ⟨_, toBytes_aBytes _, ?_⟩ | refine ⟨_, by repeat (first | exact toB_nil | apply toB_cons | apply toB_consC _ (by first | omega | (simp only [List.length_cons, List.length_nil, List.length_append, List.length_drop, List.length_take]; omega) | (refine ⟨by omega, by omega, ?_⟩; show _ ≤ (16 : Int); omega) | fail)), ?_⟩ | refine ⟨_, IntWalk.i64_in _ (by first | omega | (simp only [List.length_cons, List.length_nil, List.length_append, List.length_drop, List.length_take]; omega) | (refine ⟨by omega, by omega, ?_⟩; show _ ≤ (16 : Int); omega) | fail), ?_⟩ | refine ⟨_, wrap_u8 _, ?_⟩ | refine ⟨_, rfl, ?_⟩ | intro b5 hb5 | fail); (try refine Xc_h ?_); (try (conv => whnf)); repeat (first | refine Hid.seq ?_ | (refine Hid.reg ?_; (conv => whnf)) | refine Hid.regD ?_ | refine Hid.cond rfl ?_ | refine Hid.block ?_ | refine Hid.loop ?_ | (refine Hid.exit ?_; (conv => whnf)) | (refine Hid.ret ?_; (conv => whnf)) | (refine Hid.skip ?_; (conv => whnf)) | (refine Hid.label ?_; (conv => whnf)) | refine Hid.range ?_)))
    exact .p (.refl _) rfl
end Go.Proofs.YtjcikceophcooaaDoor
end
section
set_option linter.unusedVariables false
set_option linter.unusedSimpArgs false
namespace Go.Proofs.YtjcikceophcooaaDoor
open Go.RowKit Go.Al
section
variable {H : Type} {enc : TypeId × Value → H} {P : Program} {W : World}
theorem bulk_one (d : DataW H) : 1 ≤ Rows.uptoBulk d := by
  cases d with
  | lit l => cases l <;> simp [Rows.uptoBulk]
  | _ => simp [Rows.uptoBulk]
theorem bulk_part {d : DataW H} : ∀ {l : List (DataW H)}, d ∈ l → Rows.uptoBulk d ≤ Rows.uptoBulkAll l
  | x :: r, h => by
    rw [Rows.uptoBulkAll]
    rcases List.mem_cons.1 h with rfl | h
    · omega
    · have := bulk_part h; omega
theorem bulk_len : ∀ l : List (DataW H), l.length ≤ Rows.uptoBulkAll l
  | [] => by simp
  | x :: r => by
    have := bulk_one x
    have := bulk_len r
    rw [Rows.uptoBulkAll, List.length_cons]; omega
theorem bulk_slice (e s : List (DataW H)) : Rows.uptoBulk (.slice e s) = Rows.uptoBulkAll e + Rows.uptoBulkAll s + 1 := by rw [Rows.uptoBulk]
theorem bulk_agg (e : List (DataW H)) : Rows.uptoBulk (.agg e) = Rows.uptoBulkAll e + 1 := by rw [Rows.uptoBulk]
theorem bulk_str (s : List UInt8) : Rows.uptoBulk (DataW.lit (H := H) (.string s)) = s.length + 1 := by rw [Rows.uptoBulk]
theorem bulk_arg {N : Nat} {l : List (DataW H)} (h : Rows.uptoBulkAll l ≤ N) {j : Nat} {d : DataW H} (hj : l[j]? = some d) : Rows.uptoBulk d ≤ N :=
  Nat.le_trans (bulk_part (List.mem_of_getElem? hj)) h
structure OpensU (enc : TypeId × Value → H) (P : Program) (W : World) (N : Nat) (t : TypeId) (k : Nat) {α : Type} (mk : α → List AV) (Q : α → Prop) : Prop where
  size : P.cellsOf t = k
  lay : ∀ y, (mk y).length = k ∧ ∀ c ∈ mk y, c.one = true
  go : ∀ (fuel : Nat) (cs : List Value) (x : DataW H × List MemPlace), DataW.trod enc P W 0 (fun _ => true) true fuel t cs = some x → Rows.uptoBulk x.1 ≤ N → ∃ y, Q y ∧ RelL (Al.G0 W) W (mk y) cs
variable {N : Nat}
theorem OpensU.map {t : TypeId} {k : Nat} {α β : Type} {mk : α → List AV} {mk' : β → List AV} {Q : α → Prop} {Q' : β → Prop} (h : OpensU enc P W N t k mk Q) (g : α → β) (h1 : ∀ y, mk' (g y) = mk y) (h2 : ∀ y, Q y → Q' (g y)) (hl : ∀ z, (mk' z).length = k ∧ ∀ c ∈ mk' z, c.one = true) : OpensU enc P W N t k mk' Q' :=
  ⟨h.size, hl, fun fuel cs x hx hw => by
    obtain ⟨y, q, r⟩ := h.go fuel cs x hx hw
    exact ⟨g y, h2 y q, by rw [h1]; exact r⟩⟩
theorem OpensU.int {t : TypeId} {ik : IntKind} {Q : Int → Prop} (ht : P.underlying t = some (.int ik)) (hs : P.cellsOf t = 1) (hq : ∀ n, (Lit.int ik n).wf = true → Q n) : OpensU enc P W N t 1 (fun n : Int => [.int ik n]) Q :=
  ⟨hs, fun y => ⟨rfl, fun c hc => by simp at hc; subst hc; rfl⟩, fun fuel cs x hx hw => by
    obtain ⟨n, rfl, rfl, h⟩ := DataW.trod_int ht hx
    exact ⟨n, hq n h, .cons (.int _ _) .nil⟩⟩
theorem OpensU.bool {t : TypeId} (ht : P.underlying t = some .bool) (hs : P.cellsOf t = 1) : OpensU enc P W N t 1 (fun b : Bool => [.bool b]) (fun _ => True) :=
  ⟨hs, fun y => ⟨rfl, fun c hc => by simp at hc; subst hc; rfl⟩, fun fuel cs x hx hw => by
    obtain ⟨n, rfl, rfl⟩ := DataW.trod_bool ht hx
    exact ⟨n, trivial, .cons (.bool _) .nil⟩⟩
theorem OpensU.str {t : TypeId} (ht : P.underlying t = some .string) (hs : P.cellsOf t = 1) : OpensU enc P W N t 1 (fun s : List UInt8 => [.str s]) (fun s => s.length ≤ N) :=
  ⟨hs, fun y => ⟨rfl, fun c hc => by simp at hc; subst hc; rfl⟩, fun fuel cs x hx hw => by
    obtain ⟨s, rfl, rfl, h⟩ := DataW.trod_string ht hx
    rw [bulk_str] at hw
    exact ⟨s.data.toList, by omega, .cons (str_rel s) .nil⟩⟩
theorem opensU_rows {e : TypeId} {k : Nat} {α : Type} {mk : α → List AV} {Q : α → Prop} (h : OpensU enc P W N e k mk Q) (fuel : Nat) (a : Addr) : ∀ len : Nat,
    (∀ i, i < len → ∃ cs x, W.cells? 0 (a.add (i * k)) k = some cs ∧ DataW.trod enc P W 0 (fun _ => true) true fuel e cs = some x ∧ Rows.uptoBulk x.1 ≤ N) →
    ∃ (ys : List α) (vs : List Value), ys.length = len ∧ (∀ y ∈ ys, Q y) ∧ vs.length = len * k ∧ (∀ j, j < len * k → W.cell? (a.add j) = vs[j]?) ∧ RelL (Al.G0 W) W (ys.flatMap mk) vs
  | 0, _ => ⟨[], [], rfl, (fun y hy => by cases hy), (by simp), (fun j hj => by omega), .nil⟩
  | n + 1, hx => by
    obtain ⟨ys, vs, h1, h2, h3, h4, h5⟩ := opensU_rows h fuel a n fun i hi => hx i (by omega)
    obtain ⟨cs, x, c1, c2, c3⟩ := hx n (by omega)
    obtain ⟨_, c5, c6⟩ := World.cells?_some c1
    obtain ⟨y, q, r⟩ := h.go _ _ _ c2 c3
    have e1 : (n + 1) * k = n * k + k := by rw [Nat.add_mul, Nat.one_mul]
    refine ⟨ys ++ [y], vs ++ cs, by simp [h1], fun z hz => ?_, by simp [h3, c5, e1], fun j hj => ?_, by simpa using h5.append r⟩
    · rcases List.mem_append.1 hz with hz | hz
      · exact h2 z hz
      · rw [List.mem_singleton.1 hz]; exact q
    · by_cases hj2 : j < n * k
      · rw [h4 j hj2, List.getElem?_append_left (by omega)]
      · have h6 := c6 (j - n * k) (by omega)
        rw [List.getElem?_append_right (by omega), h3, ← h6]
        congr 1
        unfold Addr.add
        by_cases z1 : n * k = 0
        · simp [z1]
        · by_cases z2 : j - n * k = 0
          · have : j = n * k := by omega
            simp [z1, z2, this]
          · have : j ≠ 0 := by omega
            simp [z1, z2, this]; omega
theorem OpensU.slice {t e : TypeId} {k : Nat} {α : Type} {mk : α → List AV} {Q : α → Prop} (h : OpensU enc P W N e k mk Q) (one : α → AV) (ho : ∀ y, (one y).cells = mk y) (hk : 0 < k)
    (ht : P.underlying t = some (.slice e)) (hs : P.cellsOf t = 1) : OpensU enc P W N t 1 (fun l : List α => [.slc k (l.map one) .no]) (fun l => l.length ≤ N ∧ ∀ y ∈ l, Q y) :=
  ⟨hs, fun y => ⟨rfl, fun c hc => by simp at hc; subst hc; rfl⟩, fun fuel cs x hx hw => by
    rcases DataW.trod_slice ht hx with ⟨rfl, rfl⟩ | ⟨a, len, cap, elems, rest, n, rfl, rfl, rfl, hba, hl, hc, hel, hrow, _, _⟩
    · exact ⟨[], ⟨by simp, fun y hy => by cases hy⟩, .cons (.slc (vs := []) rfl (Nat.le_refl _) (Nat.zero_le _) (fun y hy => by cases hy) .nil (fun k v hk => by simp at hk) trivial) .nil⟩
    · rw [bulk_slice] at hw
      have hlb := bulk_len (elems.map (·.1))
      rw [List.length_map] at hlb
      obtain ⟨ys, vs, h1, h2, h3, h4, h5⟩ := opensU_rows h n a len fun i hi => by
        have hr := hrow i hi
        rw [h.size] at hr
        obtain ⟨x, hx⟩ : ∃ x, elems[i]? = some x := ⟨_, List.getElem?_eq_getElem (by omega)⟩
        rw [hx] at hr
        obtain ⟨cs, k1, k2⟩ := Option.bind_eq_some_iff.1 hr
        have hmem : x.1 ∈ elems.map (·.1) := List.mem_map.2 ⟨x, List.mem_of_getElem? hx, rfl⟩
        have := bulk_part hmem
        exact ⟨cs, x, k1, k2, by omega⟩
      refine ⟨ys, ⟨by omega, h2⟩, .cons (.slc (vs := vs) (by simp [h1]) hl hc (fun z hz => ?_) ?_ (fun j v hj => ?_) trivial) .nil⟩
      · obtain ⟨y, _, rfl⟩ := List.mem_map.1 hz
        rw [ho]; exact h.lay y
      · have : (ys.map one).flatMap AV.cells = ys.flatMap mk := by
          clear h1 h2 h4 h5
          induction ys with
          | nil => rfl
          | cons y l ih => simp only [List.map_cons, List.flatMap_cons, ih, ho]
        rw [this]; exact h5
      · have hjl : j < len * k := by
          obtain ⟨h, _⟩ := List.getElem?_eq_some_iff.1 hj
          omega
        have hpos : 0 < len * k := by omega
        have hc0 := h4 0 hpos
        have hcj := h4 j hjl
        rw [hj] at hcj
        obtain ⟨v0, hv0⟩ : ∃ v0, vs[0]? = some v0 := ⟨_, List.getElem?_eq_getElem (by omega)⟩
        rw [hv0] at hc0
        have e0 : a.add 0 = a := rfl
        rw [e0] at hc0
        have hblk : a.block < W.heap.size := World.block_lt_of_cell? W _ hc0
        have hspot : a.spot = none := by
          unfold World.cell? at hc0
          cases hs : a.spot with
          | none => rfl
          | some s => rw [hs] at hc0; split at hc0 <;> simp at hc0
        obtain ⟨b, o, sp⟩ := a
        simp only at hspot hblk
        subst hspot
        refine ⟨b, o, rfl, .inl hblk, ?_⟩
        rw [← hcj]
        unfold Addr.add
        by_cases hj0 : j = 0
        · subst hj0; simp
        · simp [hj0]⟩
structure OpensFU (enc : TypeId × Value → H) (P : Program) (W : World) (N : Nat) (fs : List Field) (off k : Nat) {α : Type} (mk : α → List AV) (Q : α → Prop) : Prop where
  lay : ∀ y, (mk y).length = k ∧ ∀ c ∈ mk y, c.one = true
  go : ∀ (fuel : Nat) (cs : List Value) (xs : List (DataW H × List MemPlace)), (∀ (i : Nat) (f : Field), fs[i]? = some f → DataW.trod enc P W 0 (fun _ => true) true fuel f.type ((cs.drop f.offset).take (P.cellsOf f.type)) = xs[i]?) →
    xs.length = fs.length → Rows.uptoBulkAll (xs.map (·.1)) ≤ N → cs.length = off + k → ∃ y, Q y ∧ RelL (Al.G0 W) W (mk y) (cs.drop off)
theorem OpensFU.nil {off : Nat} : OpensFU enc P W N [] off 0 (fun _ : Unit => []) (fun _ => True) :=
  ⟨fun y => ⟨rfl, fun c hc => by cases hc⟩, fun fuel cs xs h hl hw hc => ⟨(), trivial, by rw [List.drop_eq_nil_of_le (by omega)]; exact .nil⟩⟩
theorem OpensFU.cons {f : Field} {fs : List Field} {off k n : Nat} {α β : Type} {mk : α → List AV} {mk' : β → List AV} {Q : α → Prop} {Q' : β → Prop} (ho : f.offset = off) (h : OpensU enc P W N f.type k mk Q) (t : OpensFU enc P W N fs (off + k) n mk' Q') :
    OpensFU enc P W N (f :: fs) off (k + n) (fun y : α × β => mk y.1 ++ mk' y.2) (fun y => Q y.1 ∧ Q' y.2) :=
  ⟨fun y => ⟨by simp [(h.lay y.1).1, (t.lay y.2).1], fun c hc => (List.mem_append.1 hc).elim ((h.lay y.1).2 c) ((t.lay y.2).2 c)⟩, fun fuel cs xs hx hl hw hc => by
    cases xs with
    | nil => simp at hl
    | cons x xs =>
      have h0 := hx 0 f rfl
      rw [ho, h.size] at h0
      rw [List.map_cons, Rows.uptoBulkAll] at hw
      obtain ⟨y, q, r⟩ := h.go fuel _ x h0 (by omega)
      obtain ⟨z, q2, r2⟩ := t.go fuel cs xs (fun i g hg => hx (i + 1) g hg) (by simpa using hl) (by omega) (by omega)
      refine ⟨(y, z), ⟨q, q2⟩, ?_⟩
      have e : cs.drop off = (cs.drop off).take k ++ cs.drop (off + k) := by rw [← List.drop_drop, List.take_append_drop]
      rw [e]; exact r.append r2⟩
theorem OpensU.struct {t : TypeId} {fs : List Field} {k : Nat} {α : Type} {mk : α → List AV} {Q : α → Prop} (h : OpensFU enc P W N fs 0 k mk Q) (ht : P.underlying t = some (.struct fs.toArray)) (hs : P.cellsOf t = k) : OpensU enc P W N t k mk Q :=
  ⟨hs, h.lay, fun fuel cs x hx hw => by
    obtain ⟨xs, n, rfl, rfl, hl, hxl, hf⟩ := DataW.trod_struct ht hx
    rw [bulk_agg] at hw
    have := h.go n cs xs (fun i f hi => hf i f (by simpa using hi)) (by simpa using hxl) (by omega) (by rw [hl, hs]; omega)
    simpa using this⟩
theorem OpensU.argS {t : TypeId} {k : Nat} {α : Type} {mk : α → List AV} {Q : α → Prop} (h : OpensU enc P W N t k mk Q) {cs : Array Value} {d : DataW H} {ps : List MemPlace} (ht : DataW.Trod enc P W 0 (fun _ => true) true t (.agg cs) d ps) (hw : Rows.uptoBulk d ≤ N) : ∃ y, Q y ∧ Rel (Al.G0 W) W (.agg (mk y)) (.agg cs) := by
  obtain ⟨fuel, hf⟩ := ht
  obtain ⟨y, q, r⟩ := h.go _ _ _ hf hw
  have : cs = (cs.toList).toArray := by simp
  rw [this]
  exact ⟨y, q, .agg (h.lay y).2 (by simpa [Value.cells] using r)⟩
end
end Go.Proofs.YtjcikceophcooaaDoor
end
section
set_option linter.unusedVariables false
set_option linter.unusedSimpArgs false
set_option maxRecDepth 100000
namespace Go.Proofs.YtjcikceophcooaaDoor
open Go.Al Go.RowKit
section
variable {H : Type} {enc : TypeId × Value → H} {W : World}
def I64 (n : Int) : Prop := -9223372036854775808 ≤ n ∧ n ≤ 9223372036854775807
theorem int_in (n : Int) (h : (Lit.int .i64 n).wf = true) : I64 n := by simpa [I64, Lit.wf, IntKind.min, IntKind.max, IntKind.signed, IntKind.bits] using h
theorem Opens.mapQ {P : Program} {t : TypeId} {k : Nat} {α β : Type} {mk : α → List AV} {mk' : β → List AV} {Q : α → Prop} {Q' : β → Prop} (h : Opens enc P W t k mk Q) (g : α → β) (h1 : ∀ y, Q y → mk' (g y) = mk y) (h2 : ∀ y, Q y → Q' (g y)) (hl : ∀ z, (mk' z).length = k ∧ ∀ c ∈ mk' z, c.one = true) : Opens enc P W t k mk' Q' :=
  ⟨h.size, hl, fun fuel cs x hx hw => by
    obtain ⟨y, q, r⟩ := h.go fuel cs x hx hw
    exact ⟨g y, h2 y q, by rw [h1 y q]; exact r⟩⟩
structure OpIn (o : OpV) : Prop where
  kind : I64 o.kind
  sub : I64 o.sub
  n : I64 o.n
  seq : I64 o.seq
  name : o.name.length ≤ 1000000000000000
  topic : o.topic.length ≤ 1000000000000000
  want : o.want.length ≤ 1000000000000000
  body : o.body.length ≤ 1000000000000000
  attr : o.attr.length ≤ 1000000000000000
  data : o.data.length ≤ 1000000000000000
end
end Go.Proofs.YtjcikceophcooaaDoor
end
section
set_option linter.unusedVariables false
set_option linter.unusedSimpArgs false
set_option maxRecDepth 100000
namespace Go.Proofs.YtjcikceophcooaaDoor
open Go.Al Go.RowKit
section
variable {H : Type} {enc : TypeId × Value → H} {W : World}
theorem OpensU.mapQ {P : Program} {N : Nat} {t : TypeId} {k : Nat} {α β : Type} {mk : α → List AV} {mk' : β → List AV} {Q : α → Prop} {Q' : β → Prop} (h : OpensU enc P W N t k mk Q) (g : α → β) (h1 : ∀ y, Q y → mk' (g y) = mk y) (h2 : ∀ y, Q y → Q' (g y)) (hl : ∀ z, (mk' z).length = k ∧ ∀ c ∈ mk' z, c.one = true) : OpensU enc P W N t k mk' Q' :=
  ⟨h.size, hl, fun fuel cs x hx hw => by
    obtain ⟨y, q, r⟩ := h.go fuel cs x hx hw
    exact ⟨g y, h2 y q, by rw [h1 y q]; exact r⟩⟩
theorem opensU_u8 : OpensU enc Tryd.prog W 1048576 5 1 (fun b : UInt8 => [AV.int .u8 b.toNat]) (fun _ => True) :=
  OpensU.mapQ (OpensU.int (Q := fun n => 0 ≤ n ∧ n ≤ 255) Tryd.underlying5 (by kernel_rfl) fun n h => by simpa [Lit.wf, IntKind.min, IntKind.max, IntKind.signed, IntKind.bits] using h)
    (fun n => UInt8.ofNat n.toNat) (fun n h => by
      have : ((UInt8.ofNat n.toNat).toNat : Int) = n := by simp; omega
      rw [this]) (fun _ _ => trivial) (fun z => ⟨rfl, fun c hc => by simp at hc; subst hc; rfl⟩)
theorem eMsg_lay22 (m : Msg) : (eMsg m).cells.length = 8 ∧ ∀ c ∈ (eMsg m).cells, c.one = true := ⟨rfl, fun c hc => by
  simp only [eMsg, AV.cells, List.mem_cons, List.not_mem_nil, or_false] at hc
  rcases hc with rfl | rfl | rfl | rfl | rfl | rfl | rfl | rfl <;> rfl⟩
theorem eRep_lay (r : RepV) : (eRep r).cells.length = 4 ∧ ∀ c ∈ (eRep r).cells, c.one = true := ⟨rfl, fun c hc => by
  simp only [eRep, AV.cells, List.mem_cons, List.not_mem_nil, or_false] at hc
  rcases hc with rfl | rfl | rfl | rfl <;> rfl⟩
theorem opensU_msgS : OpensU enc Tryd.prog W 1048576 33 8 (fun m : Msg => (eMsg m).cells) MsgS :=
  (OpensU.struct (.cons rfl (OpensU.int (Q := I64) Tryd.underlying3 (by kernel_rfl) int_in) (.cons rfl (OpensU.str Tryd.underlying9 (by kernel_rfl)) (.cons rfl (OpensU.str Tryd.underlying9 (by kernel_rfl)) (.cons rfl (OpensU.int (Q := I64) Tryd.underlying3 (by kernel_rfl) int_in) (.cons rfl (OpensU.int (Q := I64) Tryd.underlying3 (by kernel_rfl) int_in) (.cons rfl (OpensU.bool Tryd.underlying4 (by kernel_rfl)) (.cons rfl (OpensU.str Tryd.underlying9 (by kernel_rfl)) (.cons rfl (OpensU.int (Q := I64) Tryd.underlying3 (by kernel_rfl) int_in) .nil)))))))) Tryd.underlying33 (by kernel_rfl)).map
    (fun (a, b, c, d, e, f, g, h, _) => (⟨a, b, c, d, e, f, g, h⟩ : Msg)) (fun _ => rfl) (fun y h => ⟨h.2.1, h.2.2.1, h.2.2.2.2.2.2.1, h.1, h.2.2.2.1, h.2.2.2.2.1, h.2.2.2.2.2.2.2.1⟩) eMsg_lay22
theorem opensU_reply : OpensU enc Tryd.prog W 1048576 31 4 (fun r : RepV => (eRep r).cells) RepS :=
  (OpensU.struct (.cons rfl (OpensU.int (Q := fun n => 0 ≤ n ∧ n ≤ 65535) Tryd.underlying28 (by kernel_rfl) (fun n h => by simpa [Lit.wf, IntKind.min, IntKind.max, IntKind.signed, IntKind.bits] using h)) (.cons rfl (OpensU.int (Q := I64) Tryd.underlying3 (by kernel_rfl) int_in)
    (.cons rfl (OpensU.slice opensU_msgS eMsg (fun _ => rfl) (by decide) Tryd.underlying29 (by kernel_rfl)) (.cons rfl (OpensU.slice opensU_u8 (fun b : UInt8 => AV.int .u8 b.toNat) (fun _ => rfl) (by decide) Tryd.underlying26 (by kernel_rfl)) .nil)))) Tryd.underlying31 (by kernel_rfl)).map
    (fun (a, b, c, d, _) => (⟨a, b, c, d⟩ : RepV)) (fun _ => rfl) (fun y h => ⟨h.1, h.2.1, h.2.2.1.1, h.2.2.1.2, h.2.2.2.1.1⟩) eRep_lay
end
end Go.Proofs.YtjcikceophcooaaDoor
end
section
set_option linter.unusedVariables false
set_option linter.unusedSimpArgs false
set_option maxRecDepth 100000
set_option maxHeartbeats 4000000
namespace Go.Proofs.YtjcikceophcooaaDoor
open Go.Al Go.RowKit
def msgN (m : Msg) : Nat := m.body.length + m.attr.length + m.why.length
theorem msgN_sum : ∀ {l : List Msg}, (∀ m ∈ l, MsgS m) → (l.map msgN).sum ≤ 3145728 * l.length
  | [], _ => by simp
  | m :: l, h => by
    have h0 := h m (by simp)
    have h1 := h0.body
    have h2 := h0.attr
    have h3 := h0.why
    have h4 := msgN_sum (l := l) fun x hx => h x (by simp [hx])
    rw [List.map_cons, List.sum_cons, List.length_cons, msgN]
    omega
theorem gateShows_any (w0 : Base) (hL : Laid w0) (r : RepV) (hr : RepS r) (σ : St) : CallW Tryd.prog w0 4 [eRep r] σ (fun r _ => r = .bool true) := by
  have hk := known22_any w0 hL
  have hg := show_any w0 hL r hr
  have hf := refShow_any w0 hL r hr
  refine CallW.h (B := []) Ty.tok Ty.mixed Tryd.func4 rfl Tryd.ntmps4 rfl (by simp) (by decide +kernel) (.nil σ) ?_
  have d3 : decide (showT r = showT r) = true := by simp
  generalize showT r = s at *
  obtain ⟨herr, hn, hlen, hmsgs, hdata⟩ := hr
  obtain ⟨err, n, l, d⟩ := r
  dsimp only at herr hn hlen hmsgs hdata
  have hml : (l.map eMsg).length = l.length := by simp
  have hdl : (aBytes d).length = d.length := bytes_len d
  (try refine Xc_h ?_); (try (conv => whnf)); repeat (first | refine Hid.seq ?_ | (refine Hid.reg ?_; (conv => whnf)) | refine Hid.regD ?_ | refine Hid.cond rfl ?_ | refine Hid.block ?_ | refine Hid.loop ?_ | (refine Hid.exit ?_; (conv => whnf)) | (refine Hid.ret ?_; (conv => whnf)) | (refine Hid.skip ?_; (conv => whnf)) | (refine Hid.label ?_; (conv => whnf)) | refine Hid.range ?_)
  repeat' (((first | refine SIf.y Ty.mixed (by first | exact rfl | assumption | fail) ?_ | refine SIf.n Ty.mixed (by first | exact rfl | assumption | fail) ?_ | refine SCond.y (by first | exact rfl | assumption | fail) ?_ | refine SCond.n (by first | exact rfl | assumption | fail) ?_ | refine SPick.y (by first | exact rfl | assumption | fail) ?_ | refine SPick.n (by first | exact rfl | assumption | fail) ?_ | refine SPick.b ?_ | refine SPick.i ?_ | fail | refine SLoad.on 0 rfl ?_ | refine SLoad.on 1 rfl ?_ | refine SLoad.on 2 rfl ?_ | refine SLoad.on 3 rfl ?_ | refine SLoad.on 4 rfl ?_ | refine SLoad.on 5 rfl ?_ | refine SStore.on 0 rfl ?_ | refine SStore.on 1 rfl ?_ | refine SStore.on 2 rfl ?_ | refine SStore.on 3 rfl ?_ | refine SStore.on 4 rfl ?_ | refine SStore.on 5 rfl ?_ | refine SBox.f ?_ | refine SCall.p (by fail) ?_ | fail | refine SApp.c rfl rfl (by first | assumption | exact Moves.more (by assumption) (by assumption) | fail) (by first | (simp only [length_aBytes, List.length_append, List.length_cons, List.length_nil, List.length_map, List.length_range]; omega) | omega | fail) fun tk1 σ1 hm => ?_ | refine SReg.t 0 [] (by decide +kernel) ?_ | refine And.intro (by first | omega | (rw [hml, hdl]; omega) | fail) ?_ | refine ⟨_, ⟨by first | omega | (rw [hml, hdl]; omega) | fail, by first | assumption | exact get_map (by assumption) | exact get_bytes (by assumption) | fail⟩, ?_⟩ | refine ⟨_, toBytes_aBytes _, ?_⟩ | refine ⟨_, by repeat (first | exact toB_nil | apply toB_cons | apply toB_consC _ (by first | omega | (rw [hml, hdl]; omega) | fail)), ?_⟩ | refine ⟨_, IntWalk.i64_in _ (by first | omega | (rw [hml, hdl]; omega) | fail), ?_⟩ | refine ⟨_, wrap_u8 _, ?_⟩ | refine ⟨_, rfl, ?_⟩ | refine ⟨true, fun b1 hb1 => ?_⟩ | intro b1 hb1 | fail); (try refine Xc_h ?_); (try (conv => whnf)); repeat (first | refine Hid.seq ?_ | (refine Hid.reg ?_; (conv => whnf)) | refine Hid.regD ?_ | refine Hid.cond rfl ?_ | refine Hid.block ?_ | refine Hid.loop ?_ | (refine Hid.exit ?_; (conv => whnf)) | (refine Hid.ret ?_; (conv => whnf)) | (refine Hid.skip ?_; (conv => whnf)) | (refine Hid.label ?_; (conv => whnf)) | refine Hid.range ?_)))
  refine SLoop.by Ty.mixed (fun i : Nat => l.length - i) (fun i => [(1, .vp (eRep ⟨err, n, l, d⟩)), (3, .int .i64 (((l.map eMsg).length : Int) + ((aBytes d).length : Int) + (((l.take i).map msgN).sum : Nat))), (4, .int .i64 i)]) (fun _ => []) (fun i _ => i ≤ l.length) 0 ⟨by show xWeak [(1, .vp (eRep ⟨err, n, l, d⟩)), (3, .int .i64 (((l.map eMsg).length : Int) + ((aBytes d).length : Int) + (((l.take 0).map msgN).sum : Nat))), (4, .int .i64 ((0 : Nat) : Int))] _; rw [List.take_zero, show (([] : List Msg).map msgN).sum = 0 from rfl, Int.natCast_zero, Int.add_zero]; repeat (first | exact trivial | refine ⟨by first | trivial | exact Weak.refl _ | exact Weak.tok _ _ _ | exact Weak.of_eq (congrArg (AV.int _) (by omega)) | exact Weak.of_eq (congrArg AV.bool (by fail)) | exact Weak.nils _ _ (.inr rfl), ?_⟩), .none _, Nat.zero_le _⟩ ?_
  · rintro i τ hi
    have hsl := msgN_sum (l := l.take i) fun m hm => hmsgs m (List.mem_of_mem_take hm)
    have htl : (l.take i).length ≤ 1048576 := by rw [List.length_take]; omega
    by_cases hlt : i < l.length
    · have ga : (l.map eMsg)[i]? = some (eMsg l[i]) := by simp [hlt]
      have hm := hmsgs _ (List.getElem_mem hlt)
      have htk : ((l.take (i + 1)).map msgN).sum = ((l.take i).map msgN).sum + msgN l[i] := by
        rw [List.take_succ_eq_append_getElem hlt, List.map_append, List.sum_append]; simp
      rw [msgN] at htk
      generalize l[i] = m at *
      generalize ((l.take i).map msgN).sum = N at *
      have hm1 := hm.body
      have hm2 := hm.attr
      have hm3 := hm.why
      (try refine Xc_h ?_); (try (conv => whnf)); repeat (first | refine Hid.seq ?_ | (refine Hid.reg ?_; (conv => whnf)) | refine Hid.regD ?_ | refine Hid.cond rfl ?_ | refine Hid.block ?_ | refine Hid.loop ?_ | (refine Hid.exit ?_; (conv => whnf)) | (refine Hid.ret ?_; (conv => whnf)) | (refine Hid.skip ?_; (conv => whnf)) | (refine Hid.label ?_; (conv => whnf)) | refine Hid.range ?_)
      repeat' (((first | refine SIf.y Ty.mixed (by first | exact rfl | assumption | fail) ?_ | refine SIf.n Ty.mixed (by first | exact rfl | assumption | fail) ?_ | refine SCond.y (by first | exact rfl | assumption | fail) ?_ | refine SCond.n (by first | exact rfl | assumption | fail) ?_ | refine SPick.y (by first | exact rfl | assumption | fail) ?_ | refine SPick.n (by first | exact rfl | assumption | fail) ?_ | refine SPick.b ?_ | refine SPick.i ?_ | fail | refine SLoad.on 0 rfl ?_ | refine SLoad.on 1 rfl ?_ | refine SLoad.on 2 rfl ?_ | refine SLoad.on 3 rfl ?_ | refine SLoad.on 4 rfl ?_ | refine SLoad.on 5 rfl ?_ | refine SStore.on 0 rfl ?_ | refine SStore.on 1 rfl ?_ | refine SStore.on 2 rfl ?_ | refine SStore.on 3 rfl ?_ | refine SStore.on 4 rfl ?_ | refine SStore.on 5 rfl ?_ | refine SBox.f ?_ | refine SCall.p (by fail) ?_ | fail | refine SApp.c rfl rfl (by first | assumption | exact Moves.more (by assumption) (by assumption) | fail) (by first | (simp only [length_aBytes, List.length_append, List.length_cons, List.length_nil, List.length_map, List.length_range]; omega) | omega | fail) fun tk1 σ1 hm => ?_ | refine SReg.t 0 [] (by decide +kernel) ?_ | refine And.intro (by first | omega | (rw [hml, hdl]; omega) | fail) ?_ | refine ⟨_, ⟨by first | omega | (rw [hml, hdl]; omega) | fail, by first | exact ⟨by omega, ga⟩ | exact ga⟩, ?_⟩ | refine ⟨_, toBytes_aBytes _, ?_⟩ | refine ⟨_, by repeat (first | exact toB_nil | apply toB_cons | apply toB_consC _ (by first | omega | (rw [hml, hdl]; omega) | fail)), ?_⟩ | refine ⟨_, IntWalk.i64_in _ (by first | omega | (rw [hml, hdl]; omega) | fail), ?_⟩ | refine ⟨_, wrap_u8 _, ?_⟩ | refine ⟨_, rfl, ?_⟩ | refine ⟨true, fun b1 hb1 => ?_⟩ | intro b1 hb1 | fail); (try refine Xc_h ?_); (try (conv => whnf)); repeat (first | refine Hid.seq ?_ | (refine Hid.reg ?_; (conv => whnf)) | refine Hid.regD ?_ | refine Hid.cond rfl ?_ | refine Hid.block ?_ | refine Hid.loop ?_ | (refine Hid.exit ?_; (conv => whnf)) | (refine Hid.ret ?_; (conv => whnf)) | (refine Hid.skip ?_; (conv => whnf)) | (refine Hid.label ?_; (conv => whnf)) | refine Hid.range ?_)))
      refine SIf.y Ty.mixed (decide_eq_true (by rw [hml]; omega)) ?_
      (try refine Xc_h ?_); (try (conv => whnf)); repeat (first | refine Hid.seq ?_ | (refine Hid.reg ?_; (conv => whnf)) | refine Hid.regD ?_ | refine Hid.cond rfl ?_ | refine Hid.block ?_ | refine Hid.loop ?_ | (refine Hid.exit ?_; (conv => whnf)) | (refine Hid.ret ?_; (conv => whnf)) | (refine Hid.skip ?_; (conv => whnf)) | (refine Hid.label ?_; (conv => whnf)) | refine Hid.range ?_)
      repeat' (((first | refine SIf.y Ty.mixed (by first | exact rfl | assumption | fail) ?_ | refine SIf.n Ty.mixed (by first | exact rfl | assumption | fail) ?_ | refine SCond.y (by first | exact rfl | assumption | fail) ?_ | refine SCond.n (by first | exact rfl | assumption | fail) ?_ | refine SPick.y (by first | exact rfl | assumption | fail) ?_ | refine SPick.n (by first | exact rfl | assumption | fail) ?_ | refine SPick.b ?_ | refine SPick.i ?_ | fail | refine SLoad.on 0 rfl ?_ | refine SLoad.on 1 rfl ?_ | refine SLoad.on 2 rfl ?_ | refine SLoad.on 3 rfl ?_ | refine SLoad.on 4 rfl ?_ | refine SLoad.on 5 rfl ?_ | refine SStore.on 0 rfl ?_ | refine SStore.on 1 rfl ?_ | refine SStore.on 2 rfl ?_ | refine SStore.on 3 rfl ?_ | refine SStore.on 4 rfl ?_ | refine SStore.on 5 rfl ?_ | refine SBox.f ?_ | refine SCall.p (by fail) ?_ | fail | refine SApp.c rfl rfl (by first | assumption | exact Moves.more (by assumption) (by assumption) | fail) (by first | (simp only [length_aBytes, List.length_append, List.length_cons, List.length_nil, List.length_map, List.length_range]; omega) | omega | fail) fun tk1 σ1 hm => ?_ | refine SReg.t 0 [] (by decide +kernel) ?_ | refine And.intro (by first | omega | (rw [hml, hdl]; omega) | fail) ?_ | refine ⟨_, ⟨by first | omega | (rw [hml, hdl]; omega) | fail, by first | exact ⟨by omega, ga⟩ | exact ga⟩, ?_⟩ | refine ⟨_, toBytes_aBytes _, ?_⟩ | refine ⟨_, by repeat (first | exact toB_nil | apply toB_cons | apply toB_consC _ (by first | omega | (rw [hml, hdl]; omega) | fail)), ?_⟩ | refine ⟨_, IntWalk.i64_in _ (by first | omega | (rw [hml, hdl]; omega) | fail), ?_⟩ | refine ⟨_, wrap_u8 _, ?_⟩ | refine ⟨_, rfl, ?_⟩ | refine ⟨true, fun b1 hb1 => ?_⟩ | intro b1 hb1 | fail); (try refine Xc_h ?_); (try (conv => whnf)); repeat (first | refine Hid.seq ?_ | (refine Hid.reg ?_; (conv => whnf)) | refine Hid.regD ?_ | refine Hid.cond rfl ?_ | refine Hid.block ?_ | refine Hid.loop ?_ | (refine Hid.exit ?_; (conv => whnf)) | (refine Hid.ret ?_; (conv => whnf)) | (refine Hid.skip ?_; (conv => whnf)) | (refine Hid.label ?_; (conv => whnf)) | refine Hid.range ?_)))
      refine ⟨i + 1, by omega, ?_, .none _, hlt⟩
      show xWeak [(1, .vp (eRep ⟨err, n, l, d⟩)), (3, .int .i64 (((l.map eMsg).length : Int) + ((aBytes d).length : Int) + (((l.take (i + 1)).map msgN).sum : Nat))), (4, .int .i64 ((i + 1 : Nat) : Int))] _
      have e : ((l.map eMsg).length : Int) + ((aBytes d).length : Int) + (((l.take (i + 1)).map msgN).sum : Nat) = ((l.map eMsg).length : Int) + ((aBytes d).length : Int) + (N : Int) + ((m.body.length : Int) + (m.attr.length : Int) + (m.why.length : Int)) := by rw [htk]; omega
      rw [e]
      repeat (first | exact trivial | refine ⟨by first | trivial | exact Weak.refl _ | exact Weak.tok _ _ _ | exact Weak.of_eq (congrArg (AV.int _) (by omega)) | exact Weak.of_eq (congrArg AV.bool (by fail)) | exact Weak.nils _ _ (.inr rfl), ?_⟩)
    · have hge : i = l.length := by omega
      subst hge
      rw [List.take_length] at hsl ⊢
      generalize (l.map msgN).sum = N at *
      (try refine Xc_h ?_); (try (conv => whnf)); repeat (first | refine Hid.seq ?_ | (refine Hid.reg ?_; (conv => whnf)) | refine Hid.regD ?_ | refine Hid.cond rfl ?_ | refine Hid.block ?_ | refine Hid.loop ?_ | (refine Hid.exit ?_; (conv => whnf)) | (refine Hid.ret ?_; (conv => whnf)) | (refine Hid.skip ?_; (conv => whnf)) | (refine Hid.label ?_; (conv => whnf)) | refine Hid.range ?_)
      repeat' (((first | refine SIf.y Ty.mixed (by first | exact rfl | assumption | fail) ?_ | refine SIf.n Ty.mixed (by first | exact rfl | assumption | fail) ?_ | refine SCond.y (by first | exact rfl | assumption | fail) ?_ | refine SCond.n (by first | exact rfl | assumption | fail) ?_ | refine SPick.y (by first | exact rfl | assumption | fail) ?_ | refine SPick.n (by first | exact rfl | assumption | fail) ?_ | refine SPick.b ?_ | refine SPick.i ?_ | fail | refine SLoad.on 0 rfl ?_ | refine SLoad.on 1 rfl ?_ | refine SLoad.on 2 rfl ?_ | refine SLoad.on 3 rfl ?_ | refine SLoad.on 4 rfl ?_ | refine SLoad.on 5 rfl ?_ | refine SStore.on 0 rfl ?_ | refine SStore.on 1 rfl ?_ | refine SStore.on 2 rfl ?_ | refine SStore.on 3 rfl ?_ | refine SStore.on 4 rfl ?_ | refine SStore.on 5 rfl ?_ | refine SBox.f ?_ | refine SCall.p (by fail) ?_ | fail | refine SApp.c rfl rfl (by first | assumption | exact Moves.more (by assumption) (by assumption) | fail) (by first | (simp only [length_aBytes, List.length_append, List.length_cons, List.length_nil, List.length_map, List.length_range]; omega) | omega | fail) fun tk1 σ1 hm => ?_ | refine SReg.t 0 [] (by decide +kernel) ?_ | refine And.intro (by first | omega | (rw [hml, hdl]; omega) | fail) ?_ | refine ⟨_, ⟨by first | omega | (rw [hml, hdl]; omega) | fail, by first | exact ⟨by omega, ga⟩ | exact ga⟩, ?_⟩ | refine ⟨_, toBytes_aBytes _, ?_⟩ | refine ⟨_, by repeat (first | exact toB_nil | apply toB_cons | apply toB_consC _ (by first | omega | (rw [hml, hdl]; omega) | fail)), ?_⟩ | refine ⟨_, IntWalk.i64_in _ (by first | omega | (rw [hml, hdl]; omega) | fail), ?_⟩ | refine ⟨_, wrap_u8 _, ?_⟩ | refine ⟨_, rfl, ?_⟩ | refine ⟨true, fun b1 hb1 => ?_⟩ | intro b1 hb1 | fail); (try refine Xc_h ?_); (try (conv => whnf)); repeat (first | refine Hid.seq ?_ | (refine Hid.reg ?_; (conv => whnf)) | refine Hid.regD ?_ | refine Hid.cond rfl ?_ | refine Hid.block ?_ | refine Hid.loop ?_ | (refine Hid.exit ?_; (conv => whnf)) | (refine Hid.ret ?_; (conv => whnf)) | (refine Hid.skip ?_; (conv => whnf)) | (refine Hid.label ?_; (conv => whnf)) | refine Hid.range ?_)))
      refine SIf.n Ty.mixed (decide_eq_false (by rw [hml]; omega)) ?_
      by_cases hN : (500 : Int) < ((l.map eMsg).length : Int) + ((aBytes d).length : Int) + (N : Int)
      · have d1 := decide_eq_true hN
        (try refine Xc_h ?_); (try (conv => whnf)); repeat (first | refine Hid.seq ?_ | (refine Hid.reg ?_; (conv => whnf)) | refine Hid.regD ?_ | refine Hid.cond rfl ?_ | refine Hid.block ?_ | refine Hid.loop ?_ | (refine Hid.exit ?_; (conv => whnf)) | (refine Hid.ret ?_; (conv => whnf)) | (refine Hid.skip ?_; (conv => whnf)) | (refine Hid.label ?_; (conv => whnf)) | refine Hid.range ?_)
        repeat' (((first | refine SIf.y Ty.mixed (by first | exact rfl | assumption | fail) ?_ | refine SIf.n Ty.mixed (by first | exact rfl | assumption | fail) ?_ | refine SCond.y (by first | exact rfl | assumption | fail) ?_ | refine SCond.n (by first | exact rfl | assumption | fail) ?_ | refine SPick.y (by first | exact rfl | assumption | fail) ?_ | refine SPick.n (by first | exact rfl | assumption | fail) ?_ | refine SPick.b ?_ | refine SPick.i ?_ | fail | refine SLoad.on 0 rfl ?_ | refine SLoad.on 1 rfl ?_ | refine SLoad.on 2 rfl ?_ | refine SLoad.on 3 rfl ?_ | refine SLoad.on 4 rfl ?_ | refine SLoad.on 5 rfl ?_ | refine SStore.on 0 rfl ?_ | refine SStore.on 1 rfl ?_ | refine SStore.on 2 rfl ?_ | refine SStore.on 3 rfl ?_ | refine SStore.on 4 rfl ?_ | refine SStore.on 5 rfl ?_ | refine SBox.f ?_ | refine SCall.p (by first | exact hk | exact hg | exact hf) ?_ | fail | refine SApp.c rfl rfl (by first | assumption | exact Moves.more (by assumption) (by assumption) | fail) (by first | (simp only [length_aBytes, List.length_append, List.length_cons, List.length_nil, List.length_map, List.length_range]; omega) | omega | fail) fun tk1 σ1 hm => ?_ | refine SReg.t 0 [] (by decide +kernel) ?_ | refine And.intro (by first | omega | (rw [hml, hdl]; omega) | fail) ?_ | refine ⟨_, ⟨by first | omega | (rw [hml, hdl]; omega) | fail, by first | exact ⟨by omega, ga⟩ | exact ga⟩, ?_⟩ | refine ⟨_, toBytes_aBytes _, ?_⟩ | refine ⟨_, by repeat (first | exact toB_nil | apply toB_cons | apply toB_consC _ (by first | omega | (rw [hml, hdl]; omega) | fail)), ?_⟩ | refine ⟨_, IntWalk.i64_in _ (by first | omega | (rw [hml, hdl]; omega) | fail), ?_⟩ | refine ⟨_, wrap_u8 _, ?_⟩ | refine ⟨_, rfl, ?_⟩ | refine ⟨true, fun b1 hb1 => ?_⟩ | intro b1 hb1 | fail); (try refine Xc_h ?_); (try (conv => whnf)); repeat (first | refine Hid.seq ?_ | (refine Hid.reg ?_; (conv => whnf)) | refine Hid.regD ?_ | refine Hid.cond rfl ?_ | refine Hid.block ?_ | refine Hid.loop ?_ | (refine Hid.exit ?_; (conv => whnf)) | (refine Hid.ret ?_; (conv => whnf)) | (refine Hid.skip ?_; (conv => whnf)) | (refine Hid.label ?_; (conv => whnf)) | refine Hid.range ?_)))
        exact .w rfl
      · have d1 := decide_eq_false hN
        (try refine Xc_h ?_); (try (conv => whnf)); repeat (first | refine Hid.seq ?_ | (refine Hid.reg ?_; (conv => whnf)) | refine Hid.regD ?_ | refine Hid.cond rfl ?_ | refine Hid.block ?_ | refine Hid.loop ?_ | (refine Hid.exit ?_; (conv => whnf)) | (refine Hid.ret ?_; (conv => whnf)) | (refine Hid.skip ?_; (conv => whnf)) | (refine Hid.label ?_; (conv => whnf)) | refine Hid.range ?_)
        repeat' (((first | refine SIf.y Ty.mixed (by first | exact rfl | assumption | fail) ?_ | refine SIf.n Ty.mixed (by first | exact rfl | assumption | fail) ?_ | refine SCond.y (by first | exact rfl | assumption | fail) ?_ | refine SCond.n (by first | exact rfl | assumption | fail) ?_ | refine SPick.y (by first | exact rfl | assumption | fail) ?_ | refine SPick.n (by first | exact rfl | assumption | fail) ?_ | refine SPick.b ?_ | refine SPick.i ?_ | fail | refine SLoad.on 0 rfl ?_ | refine SLoad.on 1 rfl ?_ | refine SLoad.on 2 rfl ?_ | refine SLoad.on 3 rfl ?_ | refine SLoad.on 4 rfl ?_ | refine SLoad.on 5 rfl ?_ | refine SStore.on 0 rfl ?_ | refine SStore.on 1 rfl ?_ | refine SStore.on 2 rfl ?_ | refine SStore.on 3 rfl ?_ | refine SStore.on 4 rfl ?_ | refine SStore.on 5 rfl ?_ | refine SBox.f ?_ | refine SCall.p (by first | exact hk | exact hg | exact hf) ?_ | fail | refine SApp.c rfl rfl (by first | assumption | exact Moves.more (by assumption) (by assumption) | fail) (by first | (simp only [length_aBytes, List.length_append, List.length_cons, List.length_nil, List.length_map, List.length_range]; omega) | omega | fail) fun tk1 σ1 hm => ?_ | refine SReg.t 0 [] (by decide +kernel) ?_ | refine And.intro (by first | omega | (rw [hml, hdl]; omega) | fail) ?_ | refine ⟨_, ⟨by first | omega | (rw [hml, hdl]; omega) | fail, by first | exact ⟨by omega, ga⟩ | exact ga⟩, ?_⟩ | refine ⟨_, toBytes_aBytes _, ?_⟩ | refine ⟨_, by repeat (first | exact toB_nil | apply toB_cons | apply toB_consC _ (by first | omega | (rw [hml, hdl]; omega) | fail)), ?_⟩ | refine ⟨_, IntWalk.i64_in _ (by first | omega | (rw [hml, hdl]; omega) | fail), ?_⟩ | refine ⟨_, wrap_u8 _, ?_⟩ | refine ⟨_, rfl, ?_⟩ | refine ⟨true, fun b1 hb1 => ?_⟩ | intro b1 hb1 | fail); (try refine Xc_h ?_); (try (conv => whnf)); repeat (first | refine Hid.seq ?_ | (refine Hid.reg ?_; (conv => whnf)) | refine Hid.regD ?_ | refine Hid.cond rfl ?_ | refine Hid.block ?_ | refine Hid.loop ?_ | (refine Hid.exit ?_; (conv => whnf)) | (refine Hid.ret ?_; (conv => whnf)) | (refine Hid.skip ?_; (conv => whnf)) | (refine Hid.label ?_; (conv => whnf)) | refine Hid.range ?_)))
        exact .w (by rw [d3])
end Go.Proofs.YtjcikceophcooaaDoor
end
