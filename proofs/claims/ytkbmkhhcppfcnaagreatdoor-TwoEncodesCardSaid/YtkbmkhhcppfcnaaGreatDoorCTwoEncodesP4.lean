/- The law TwoEncodes returns true for every input, and its arguments read as before: the tied card. No conditions. This is part 4 of 6 of its proof; the parts are read in order. No conditions. -/
import Derived.Test.YtkbmkhhcppfcnaaGreatDoorCTwoEncodesP3
section
set_option linter.unusedVariables false
set_option linter.unusedSimpArgs false
namespace Go.Proofs.YtkbmkhhcppfcnaaGreatDoor
open Go.Al
structure Pts where
  v : Nat
  t : UInt8
  id : Int
  seq : Int
  ok : Bool
def Pts.none : Pts := ⟨0, 0, 0, 0, false⟩
def parts (k : List UInt8) : Pts :=
  if k.length = 22 ∧ (48 ≤ (k.getD 0 0).toNat ∧ (k.getD 0 0).toNat ≤ 57) ∧ (97 ≤ (k.getD 1 0).toNat ∧ (k.getD 1 0).toNat ≤ 122) then
    if (goAtoi ((k.take 12).drop 2)).2 = true ∧ (goAtoi (k.drop 12)).2 = true ∧ rkey ((k.getD 0 0).toNat - 48) (k.getD 1 0) (goAtoi ((k.take 12).drop 2)).1 (goAtoi (k.drop 12)).1 = k then
      ⟨(k.getD 0 0).toNat - 48, k.getD 1 0, (goAtoi ((k.take 12).drop 2)).1, (goAtoi (k.drop 12)).1, true⟩
    else .none
  else .none
theorem cl_nn {n : Int} (h : 0 ≤ n ∧ n ≤ 9999999999) : ((cl n : Nat) : Int) = n := by unfold cl; omega
theorem goAtoi_dN (n : Int) : goAtoi (dN 10 (cl n)) = (((cl n : Nat) : Int), true) := goAtoi_ok (n := ((cl n : Nat) : Int)) (by rw [dN_length]; decide) (atoi_dN 9 (cl n) (cl_lt n))
theorem rkey_take (v : Nat) (t : UInt8) (id seq : Int) : ((rkey v t id seq).take 12).drop 2 = dN 10 (cl id) := by
  have hA := dN_length 10 (cl id)
  show ((dN 10 (cl id)) ++ (dN 10 (cl seq))).take 10 = _
  rw [List.take_append_of_le_length (by omega), List.take_of_length_le (by omega)]
theorem rkey_drop (v : Nat) (t : UInt8) (id seq : Int) : (rkey v t id seq).drop 12 = dN 10 (cl seq) := by
  have hA := dN_length 10 (cl id)
  show ((dN 10 (cl id)) ++ (dN 10 (cl seq))).drop 10 = _
  rw [List.drop_append_of_le_length (by omega), List.drop_of_length_le (by omega)]; rfl
theorem rkey_0 (v : Nat) (t : UInt8) (id seq : Int) : (rkey v t id seq).getD 0 0 = UInt8.ofNat (48 + v) := rfl
theorem rkey_1 (v : Nat) (t : UInt8) (id seq : Int) : (rkey v t id seq).getD 1 0 = t := rfl
theorem rkey_cl (v : Nat) (t : UInt8) (id seq : Int) : rkey v t (cl id : Nat) (cl seq : Nat) = rkey v t id seq := by
  have h : ∀ n : Int, cl ((cl n : Nat) : Int) = cl n := fun n => by unfold cl; omega
  simp only [rkey, h]
theorem parts_rkey {v : Nat} (hv : v < 10) {t : UInt8} (ht : 97 ≤ t.toNat ∧ t.toNat ≤ 122) (id seq : Int) : parts (rkey v t id seq) = ⟨v, t, (cl id : Nat), (cl seq : Nat), true⟩ := by
  have hb : (UInt8.ofNat (48 + v)).toNat = 48 + v := byte_val (by omega)
  rw [parts, rkey_0, rkey_1, rkey_take, rkey_drop, goAtoi_dN, goAtoi_dN, hb, rkey_length, if_pos ⟨rfl, by omega, ht⟩]
  rw [show 48 + v - 48 = v by omega]
  simp only [rkey_cl, and_self, if_true]
theorem parts_ok {k : List UInt8} (h : (parts k).ok = true) : (parts k).v < 10 ∧ (97 ≤ (parts k).t.toNat ∧ (parts k).t.toNat ≤ 122) ∧ k = rkey (parts k).v (parts k).t (parts k).id (parts k).seq := by
  unfold parts at h ⊢
  split at h
  · rename_i h1
    rw [if_pos h1]
    split at h
    · rename_i h2
      rw [if_pos h2]
      exact ⟨by show _ - 48 < 10; omega, h1.2.2, h2.2.2.symm⟩
    · cases h
  · cases h
theorem parts_no {k : List UInt8} (h : ¬ (parts k).ok = true) : parts k = .none := by
  unfold parts at h ⊢
  split
  · rename_i h1
    rw [if_pos h1] at h
    split
    · rename_i h2
      rw [if_pos h2] at h
      exact absurd rfl h
    · rfl
  · rfl
theorem digit0 (k : List UInt8) (c : UInt8) : ∃ n : Nat, n < 10 ∧ (goAtoi [c]).1 = n ∧ (48 ≤ c.toNat ∧ c.toNat ≤ 57 → n = c.toNat - 48) := by
  by_cases h : 48 ≤ c.toNat ∧ c.toNat ≤ 57
  · have hd : c = dig (c.toNat - 48) := by
      apply UInt8.toNat_inj.1
      rw [dig, byte_val (by omega)]; omega
    have e : [c] = dN 1 (c.toNat - 48) := by rw [dN, dN, ← hd]; rfl
    have := goAtoi_ok (s := [c]) (by simp) (by rw [e]; exact atoi_dN 0 (c.toNat - 48) (by omega))
    exact ⟨c.toNat - 48, by omega, by rw [this], fun _ => rfl⟩
  · refine ⟨0, by decide, ?_, fun h' => absurd h' h⟩
    have hn : Go.Lib.digitVal c = none := by unfold Go.Lib.digitVal; rw [if_neg (by omega)]
    have : Go.Lib.atoi [c] = none := by
      have h1 : Go.Lib.decNat [c] = none := by simp [Go.Lib.decNat, Go.Lib.decFrom, hn]
      have h2 : Go.Lib.decNat [] = none := rfl
      rw [Go.Lib.atoi, h1, h2]
      simp
    rw [goAtoi, Go.Lib.atoiAll_short [c] (by simp), this]; rfl
def partsR (k : List UInt8) : Pts :=
  if k.length = 22 ∧ (97 ≤ (k.getD 1 0).toNat ∧ (k.getD 1 0).toNat ≤ 122) then
    if rkey (goAtoi (k.take 1)).1.toNat (k.getD 1 0) (goAtoi ((k.take 12).drop 2)).1 (goAtoi (k.drop 12)).1 = k then
      ⟨(goAtoi (k.take 1)).1.toNat, k.getD 1 0, (goAtoi ((k.take 12).drop 2)).1, (goAtoi (k.drop 12)).1, true⟩
    else .none
  else .none
theorem rkey_eq {k : List UInt8} {v : Nat} {t : UInt8} {a b : Int} (h : rkey v t a b = k) : goAtoi ((k.take 12).drop 2) = (((cl a : Nat) : Int), true) ∧ goAtoi (k.drop 12) = (((cl b : Nat) : Int), true) ∧ k.getD 0 0 = UInt8.ofNat (48 + v) := by
  subst h
  rw [rkey_take, rkey_drop, goAtoi_dN, goAtoi_dN]
  exact ⟨rfl, rfl, rfl⟩
theorem partsR_eq (k : List UInt8) : partsR k = parts k := by
  unfold partsR
  split
  · rename_i h1
    obtain ⟨c, k', rfl⟩ : ∃ c k', k = c :: k' := by
      cases k with
      | nil => simp at h1
      | cons c k' => exact ⟨c, k', rfl⟩
    have ht : (c :: k').take 1 = [c] := rfl
    obtain ⟨n, hn, e, hd⟩ := digit0 (c :: k') c
    rw [ht, e, Int.toNat_natCast]
    split
    · rename_i h2
      obtain ⟨g1, g2, g3⟩ := rkey_eq h2
      have gc : c = UInt8.ofNat (48 + n) := g3
      have gn : c.toNat = 48 + n := by rw [gc, byte_val (by omega)]
      have h48 : 48 ≤ ((c :: k').getD 0 0).toNat ∧ ((c :: k').getD 0 0).toNat ≤ 57 := by show 48 ≤ c.toNat ∧ c.toNat ≤ 57; omega
      have hv : ((c :: k').getD 0 0).toNat - 48 = n := by show c.toNat - 48 = n; omega
      rw [parts, if_pos ⟨h1.1, h48, h1.2⟩, if_pos ⟨by rw [g1], by rw [g2], by rw [hv]; exact h2⟩, hv]
    · rename_i h2
      rw [parts]
      split
      · rename_i h3
        rw [if_neg]
        rintro ⟨_, _, h4⟩
        have : ((c :: k').getD 0 0).toNat - 48 = n := (hd h3.2.1).symm
        rw [this] at h4
        exact h2 h4
      · rfl
  · rename_i h1
    rw [parts, if_neg]
    rintro ⟨h2, _, h3⟩
    exact h1 ⟨h2, h3⟩
end Go.Proofs.YtkbmkhhcppfcnaaGreatDoor
end
section
set_option linter.unusedVariables false
set_option linter.unusedSimpArgs false
namespace Go.Proofs.YtkbmkhhcppfcnaaGreatDoor
open Go.Al
def whyN (k : Nat) : List UInt8 := if k = 0 then [] else if k = 1 then [110, 97, 99, 107] else [116, 105, 109, 101]
def rMsg (seq : Int) (v : List UInt8) (a : Nat) (f : Option Nat) : Msg × Nat × Option Nat :=
  let p1 := rText v a f 60
  let p2 := rText v p1.2.1 p1.2.2 30
  let p3 := rNum v p2.2.1 p2.2.2
  let p4 := rNum v p3.2.1 p3.2.2
  let p5 := rNum v p4.2.1 p4.2.2
  let p6 := rNum v p5.2.1 p5.2.2
  (⟨seq, p1.1, p2.1, p3.1, p4.1, decide ((0 : Int) < (p6.1 : Int)), whyN (min p6.1 2), p5.1⟩, p6.2.1, p6.2.2)
def rSub (x : Sub) (v : List UInt8) : Sub × Option Nat :=
  let p1 := rText v 0 none 30
  let p2 := rText v p1.2.1 p1.2.2 30
  let p3 := rText v p2.2.1 p2.2.2 30
  let p4 := rNum v p3.2.1 p3.2.2
  let p5 := rNum v p4.2.1 p4.2.2
  let p6 := rNum v p5.2.1 p5.2.2
  let p7 := rText v p6.2.1 p6.2.2 30
  ({ x with name := p1.1, topic := p2.1, want := p3.1, lease := p4.1, most := p5.1, floor := p6.1, note := p7.1 }, p7.2.2)
def rGaps (v : List UInt8) : Nat → Nat → Option Nat → List Int → List Int × Option Nat
  | 0, _, f, acc => (acc, f)
  | n + 1, a, f, acc => if f = none then rGaps v n (rNum v a f).2.1 (rNum v a f).2.2 (acc ++ [((rNum v a f).1 : Int)]) else (acc, f)
structure D3 where
  x : Sub
  gaps : List Int
  good : Bool
def sub0 : Sub := ⟨0, [], [], [], 0, 0, 0, [], [], []⟩
def dRow (d : D3) (r : Row) : D3 × Option Nat :=
  let p := parts r.key
  let x := { d.x with id := p.id }
  if p.t = 97 then
    let q := rNum r.val 0 none
    let g := rGaps r.val q.1 q.2.1 q.2.2 d.gaps
    (⟨x, g.1, d.good⟩, g.2)
  else if p.t = 113 then
    let m := rMsg p.seq r.val 0 none
    (⟨{ x with queue := x.queue ++ [m.1] }, d.gaps, d.good⟩, m.2.2)
  else if p.t = 115 then
    let s := rSub x r.val
    (⟨s.1, d.gaps, d.good⟩, s.2)
  else (⟨x, d.gaps, d.good⟩, none)
def gtS (a b : List UInt8) : Bool := !(ltS a b || decide (a = b))
def dStep (d : D3) (i : Nat) (prev : List UInt8) (r : Row) : D3 :=
  let q := dRow d r
  { q.1 with good := d.good && (decide (i = 0) || gtS r.key prev) && q.2.isNone }
def dRows (l : List Row) : Nat → D3
  | 0 => ⟨sub0, [], true⟩
  | i + 1 => dStep (dRows l i) i ((l[i - 1]?).getD ⟨[], []⟩).key ((l[i]?).getD ⟨[], []⟩)
def runUp (last : Int) : List Int → List Int
  | [] => []
  | g :: l => w64 (last + g) :: runUp (w64 (last + g)) l
def dSub (l : List Row) : Sub := let d := dRows l l.length; { d.x with acks := runUp d.x.floor d.gaps }
def dec3 (l : List Row) : Sub × Nat := if (dRows l l.length).good = true ∧ enc3 (dSub l) = l then (dSub l, 0) else (sub0, 11)
end Go.Proofs.YtkbmkhhcppfcnaaGreatDoor
end
section
set_option linter.unusedVariables false
set_option linter.unusedSimpArgs false
namespace Go.Proofs.YtkbmkhhcppfcnaaGreatDoor
open Go.Al
theorem rNum_far (v : List UInt8) (a : Nat) (f : Option Nat) : (rNum v a f).2.1 ≤ max a v.length := by
  have h := (getNum_le v a).1
  simp only [rNum, atN]; split <;> omega
theorem getText_far (v : List UInt8) (a most : Nat) : (getText v a most).2.1 ≤ v.length ∧ (getText v a most).1.length ≤ most := by
  have h := (getNum_le v a).1
  unfold getText
  dsimp only
  split
  · simp
  · split
    · simp
    · split
      · simp
      · simp; omega
theorem rText_far (v : List UInt8) (a : Nat) (f : Option Nat) (most : Nat) : (rText v a f most).2.1 ≤ max a v.length := by
  have h := (getText_far v a most).1
  simp only [rText, atN]; split <;> omega
theorem rText_len (v : List UInt8) (a : Nat) (f : Option Nat) (most : Nat) : (rText v a f most).1.length ≤ most := by
  have h := (getText_far v a most).2
  simp only [rText]; split
  · exact h
  · simp
theorem gn_gt : ∀ (v : List UInt8) (a k i n : Nat), (gn v a k i n).2.2 = 0 → a + i < (gn v a k i n).2.1
  | v, a, 0, i, n, h => by simp [gn] at h
  | v, a, k + 1, i, n, h => by
    rw [gn] at h ⊢
    split
    · rename_i h1; rw [if_pos h1] at h; simp at h
    · rename_i h1
      rw [if_neg h1] at h
      dsimp only at h ⊢
      split
      · rename_i h2
        rw [if_pos h2] at h
        split
        · rename_i h3; rw [if_pos h3] at h; simp at h
        · simp
      · rename_i h2
        rw [if_neg h2] at h
        have := gn_gt v a k (i + 1) _ h
        omega
theorem getNum_gt (v : List UInt8) (a : Nat) (h : (getNum v a).2.2 = 0) : a < (getNum v a).2.1 := by
  unfold getNum at h ⊢
  split
  · rename_i h1; rw [if_pos h1] at h; simp at h
  · rename_i h1
    rw [if_neg h1] at h
    exact gn_gt v a 8 0 0 h
theorem rNum_step (v : List UInt8) (a : Nat) : (rNum v a none).2.2 = none → a < (rNum v a none).2.1 ∧ (rNum v a none).2.1 ≤ v.length := by
  intro h
  have he : (getNum v a).2.2 = 0 := by
    simp only [rNum, errN] at h
    by_cases he : (getNum v a).2.2 = 0
    · exact he
    · rw [if_neg he] at h; cases h
  have h1 := getNum_gt v a he
  have h2 := (getNum_le v a).1
  simp only [rNum, atN, if_pos he]
  exact ⟨h1, h2⟩
theorem rGaps_len : ∀ (v : List UInt8) (n a : Nat) (f : Option Nat) (acc : List Int), (f = none → a ≤ v.length) → (rGaps v n a f acc).1.length ≤ acc.length + (v.length - a) + 1
  | v, 0, a, f, acc, h => by simp [rGaps]; omega
  | v, n + 1, a, f, acc, h => by
    rw [rGaps]
    split
    · rename_i hf
      subst hf
      have ha := h rfl
      cases hr : (rNum v a none).2.2 with
      | none =>
        obtain ⟨h1, h2⟩ := rNum_step v a hr
        have := rGaps_len v n (rNum v a none).2.1 none (acc ++ [((rNum v a none).1 : Int)]) (fun _ => h2)
        simp at this
        omega
      | some e =>
        have : rGaps v n (rNum v a none).2.1 (some e) (acc ++ [((rNum v a none).1 : Int)]) = (acc ++ [((rNum v a none).1 : Int)], some e) := by
          cases n <;> simp [rGaps]
        rw [this]; simp
    · simp; omega
def tot (l : List Row) : Nat := (l.map fun r => r.val.length + 1).sum
theorem tot_take {l : List Row} {i : Nat} {r : Row} (h : l[i]? = some r) : tot (l.take (i + 1)) = tot (l.take i) + r.val.length + 1 := by
  rw [take_snoc h]; simp [tot]; omega
theorem tot_le (l : List Row) (i : Nat) : tot (l.take i) ≤ tot l := by
  have : tot l = tot (l.take i) + tot (l.drop i) := by
    conv => lhs; rw [← List.take_append_drop i l]
    simp only [tot, List.map_append, List.sum_append]
  omega
theorem tot_len : ∀ l : List Row, l.length ≤ tot l
  | [] => by simp [tot]
  | r :: l => by have := tot_len l; simp [tot] at this ⊢; omega
theorem tot_mem {l : List Row} {r : Row} (h : r ∈ l) : r.val.length + 1 ≤ tot l := by
  obtain ⟨i, hi, rfl⟩ := List.getElem_of_mem h
  have h1 := tot_take (l := l) (i := i) (r := l[i]) (by simp [hi])
  have h2 := tot_le l (i + 1)
  omega
structure DFit (d : D3) (n m : Nat) : Prop where
  name : d.x.name.length ≤ 1000
  topic : d.x.topic.length ≤ 1000
  want : d.x.want.length ≤ 1000
  note : d.x.note.length ≤ 1000
  acks : d.x.acks = []
  gaps : d.gaps.length ≤ n
  queue : d.x.queue.length ≤ m
  msgs : ∀ m ∈ d.x.queue, m.body.length ≤ 1000 ∧ m.attr.length ≤ 1000
theorem rMsg_fit (seq : Int) (v : List UInt8) (a : Nat) (f : Option Nat) : (rMsg seq v a f).1.body.length ≤ 1000 ∧ (rMsg seq v a f).1.attr.length ≤ 1000 := by
  have h1 := rText_len v a f 60
  have h2 := rText_len v (rText v a f 60).2.1 (rText v a f 60).2.2 30
  simp only [rMsg]
  omega
theorem dRow_fit {d : D3} {n m : Nat} (h : DFit d n m) (r : Row) : DFit (dRow d r).1 (n + r.val.length + 1) (m + 1) := by
  have hg := h.gaps
  have hq := h.queue
  unfold dRow
  dsimp only
  split
  · refine ⟨h.name, h.topic, h.want, h.note, h.acks, ?_, by show d.x.queue.length ≤ m + 1; omega, h.msgs⟩
    have := rGaps_len r.val (rNum r.val 0 none).1 (rNum r.val 0 none).2.1 (rNum r.val 0 none).2.2 d.gaps (fun hf => (rNum_step r.val 0 hf).2)
    show (rGaps _ _ _ _ _).1.length ≤ _
    omega
  · split
    · refine ⟨h.name, h.topic, h.want, h.note, h.acks, by show d.gaps.length ≤ _; omega, by show (d.x.queue ++ _).length ≤ _; simp; omega, ?_⟩
      intro y hy
      rcases List.mem_append.1 hy with hy | hy
      · exact h.msgs y hy
      · obtain rfl := List.mem_singleton.1 hy; exact rMsg_fit _ _ _ _
    · split
      · refine ⟨?_, ?_, ?_, ?_, h.acks, by show d.gaps.length ≤ _; omega, by show d.x.queue.length ≤ m + 1; omega, h.msgs⟩
        all_goals
          simp only [rSub]
          refine Nat.le_trans (rText_len _ _ _ _) (by decide)
      · exact ⟨h.name, h.topic, h.want, h.note, h.acks, by show d.gaps.length ≤ _; omega, by show d.x.queue.length ≤ m + 1; omega, h.msgs⟩
theorem dRows_fit (l : List Row) : ∀ i, i ≤ l.length → DFit (dRows l i) (tot (l.take i)) i
  | 0, _ => ⟨by simp [dRows, sub0], by simp [dRows, sub0], by simp [dRows, sub0], by simp [dRows, sub0], rfl, by simp [dRows], by simp [dRows, sub0], by simp [dRows, sub0]⟩
  | i + 1, hi => by
    have h := dRows_fit l i (by omega)
    have hg : l[i]? = some l[i] := by simp [show i < l.length by omega]
    have h2 := dRow_fit h l[i]
    rw [dRows, tot_take hg, hg]
    exact ⟨h2.name, h2.topic, h2.want, h2.note, h2.acks, h2.gaps, h2.queue, h2.msgs⟩
theorem runUp_len : ∀ (l : List Int) (a : Int), (runUp a l).length = l.length
  | [], _ => rfl
  | g :: l, a => by simp [runUp, runUp_len l]
theorem dSub_fits (l : List Row) (h : tot l ≤ 100000) : Fits (dSub l) := by
  have hf := dRows_fit l l.length (Nat.le_refl _)
  have hl := tot_len l
  have ht := hf.gaps
  rw [List.take_length] at ht
  have hq := hf.queue
  exact ⟨hf.name, hf.topic, hf.want, hf.note, by show (runUp _ _).length ≤ _; rw [runUp_len]; omega, by show (dRows l l.length).x.queue.length ≤ _; omega, hf.msgs⟩
end Go.Proofs.YtkbmkhhcppfcnaaGreatDoor
end
section
set_option linter.unusedVariables false
set_option linter.unusedSimpArgs false
namespace Go.Proofs.YtkbmkhhcppfcnaaGreatDoor
open Go.Al
theorem ltS_nil (l : List UInt8) : ltS l [] = false := by cases l <;> rfl
theorem ltS_cons (a b : UInt8) (l m : List UInt8) : ltS (a :: l) (b :: m) = (decide (a < b) || (a == b && ltS l m)) := rfl
theorem ltS_irr : ∀ l : List UInt8, ltS l l = false
  | [] => rfl
  | a :: l => by rw [ltS_cons, ltS_irr l]; simp
theorem ltS_app : ∀ (p l m : List UInt8), ltS (p ++ l) (p ++ m) = ltS l m
  | [], l, m => rfl
  | a :: p, l, m => by rw [List.cons_append, List.cons_append, ltS_cons, ltS_app p]; simp
theorem ltS_same : ∀ (p q l m : List UInt8), p.length = q.length → ltS p q = true → ltS (p ++ l) (q ++ m) = true
  | [], [], l, m, _, h => by cases h
  | a :: p, b :: q, l, m, hl, h => by
    rw [ltS_cons] at h
    rw [List.cons_append, List.cons_append, ltS_cons]
    simp only [Bool.or_eq_true, Bool.and_eq_true] at h ⊢
    exact h.imp id fun h => ⟨h.1, ltS_same p q l m (by simpa using hl) h.2⟩
theorem ltS_asymm : ∀ (l m : List UInt8), ltS l m = true → ltS m l = false
  | l, [], h => by rw [ltS_nil] at h; cases h
  | [], b :: m, _ => rfl
  | a :: l, b :: m, h => by
    rw [ltS_cons] at h ⊢
    simp only [Bool.or_eq_true, Bool.and_eq_true, decide_eq_true_eq, beq_iff_eq] at h
    simp only [Bool.or_eq_false_iff, Bool.and_eq_false_iff, decide_eq_false_iff_not]
    rcases h with h | ⟨rfl, h⟩
    · have hn : a.toNat < b.toNat := h
      refine ⟨fun h' => ?_, .inl ?_⟩
      · have : b.toNat < a.toNat := h'
        omega
      · rw [beq_eq_false_iff_ne]
        rintro rfl
        omega
    · exact ⟨fun h' => by have : a.toNat < a.toNat := h'; omega, .inr (ltS_asymm l m h)⟩
theorem ltS_trans : ∀ (l m n : List UInt8), ltS l m = true → ltS m n = true → ltS l n = true
  | l, m, [], _, h => by rw [ltS_nil] at h; cases h
  | l, [], _ :: _, h, _ => by rw [ltS_nil] at h; cases h
  | [], _ :: _, _ :: _, _, _ => rfl
  | a :: l, b :: m, c :: n, h, k => by
    rw [ltS_cons] at h k ⊢
    simp only [Bool.or_eq_true, Bool.and_eq_true, decide_eq_true_eq, beq_iff_eq] at h k ⊢
    rcases h with h | ⟨rfl, h⟩
    · rcases k with k | ⟨rfl, k⟩
      · left
        have h1 : a.toNat < b.toNat := h
        have h2 : b.toNat < c.toNat := k
        show a.toNat < c.toNat
        omega
      · exact .inl h
    · rcases k with k | ⟨rfl, k⟩
      · exact .inl k
      · exact .inr ⟨rfl, ltS_trans l m n h k⟩
theorem ltS_not_le {a b : List UInt8} (h : ltS a b = true) : (ltS b a || decide (b = a)) = false := by
  rw [ltS_asymm a b h, Bool.false_or, decide_eq_false_iff_not]
  rintro rfl
  rw [ltS_irr] at h; cases h
theorem gtS_of {a b : List UInt8} (h : ltS b a = true) : gtS a b = true := by
  rw [gtS, ltS_not_le h]; rfl
theorem dN_lt : ∀ (k a b : Nat), a < b → b < 10 ^ k → ltS (dN k a) (dN k b) = true
  | 0, a, b, h, hb => by simp at hb; omega
  | k + 1, a, b, h, hb => by
    rw [dN, dN]
    have hb' : b / 10 < 10 ^ k := by rw [Nat.pow_succ] at hb; omega
    by_cases hq : a / 10 < b / 10
    · exact ltS_same _ _ _ _ (by rw [dN_length, dN_length]) (dN_lt k _ _ hq hb')
    · have he : a / 10 = b / 10 := by omega
      rw [he, ltS_app, ltS_cons]
      have h1 : (dig a).toNat = 48 + a % 10 := by rw [dig, byte_val (by omega)]
      have h2 : (dig b).toNat = 48 + b % 10 := by rw [dig, byte_val (by omega)]
      have : dig a < dig b := by show (dig a).toNat < (dig b).toNat; omega
      simp [this]
theorem cl_mono {a b : Int} (h0 : 0 ≤ a) (h : a < b) (hb : b ≤ 9999999999) : cl a < cl b := by unfold cl; omega
theorem rkey_seq (v : Nat) (t : UInt8) (id : Int) {a b : Int} (h0 : 0 ≤ a) (h : a < b) (hb : b ≤ 9999999999) : ltS (rkey v t id a) (rkey v t id b) = true := by
  rw [rkey, rkey, ltS_app]
  exact dN_lt 10 _ _ (cl_mono h0 h hb) (cl_lt b)
theorem rkey_table (v : Nat) {t u : UInt8} (h : t.toNat < u.toNat) (id a b : Int) : ltS (rkey v t id a) (rkey v u id b) = true := by
  show ltS (UInt8.ofNat (48 + v) :: t :: (dN 10 (cl id) ++ dN 10 (cl a))) (UInt8.ofNat (48 + v) :: u :: (dN 10 (cl id) ++ dN 10 (cl b))) = true
  rw [ltS_cons, ltS_cons]
  have : t < u := h
  simp [this]
def Up (l : List Row) : Prop := l.Pairwise fun a b => ltS a.key b.key = true
theorem Up.get {l : List Row} (h : Up l) {i : Nat} {a b : Row} (ha : l[i]? = some a) (hb : l[i + 1]? = some b) : ltS a.key b.key = true := by
  obtain ⟨h1, rfl⟩ := List.getElem?_eq_some_iff.1 ha
  obtain ⟨h2, rfl⟩ := List.getElem?_eq_some_iff.1 hb
  exact List.pairwise_iff_getElem.1 h i (i + 1) h1 h2 (by omega)
theorem rise_rows (v : Nat) (t : UInt8) (id : Int) (f : Msg → List UInt8) : ∀ (q : List Msg) (lo : Int), 0 ≤ lo → Rise lo (q.map Msg.seq) → (∀ m ∈ q, m.seq ≤ 9999999999) → Up (q.map fun m => ⟨rkey v t id m.seq, f m⟩)
  | [], _, _, _, _ => .nil
  | m :: q, lo, h0, h, hh => by
    have h1 : lo < m.seq := h.1
    refine .cons ?_ (rise_rows v t id f q m.seq (by omega) h.2 fun x hx => hh x (by simp [hx]))
    intro r hr
    obtain ⟨x, hx, rfl⟩ := List.mem_map.1 hr
    have : m.seq < x.seq := h.2.lt _ (List.mem_map.2 ⟨x, hx, rfl⟩)
    exact rkey_seq v t id (by omega) this (hh x (by simp [hx]))
theorem enc3_up {id clock next : Nat} {x : Sub} (h : Grown id clock next x) (hn : next ≤ 9999999999) : Up (enc3 x) := by
  rw [enc3, Up, List.pairwise_append, List.pairwise_append]
  refine ⟨⟨?_, ?_, ?_⟩, .cons (by simp) .nil, ?_⟩
  · split
    · exact .nil
    · exact .cons (by simp) .nil
  · exact rise_rows 3 113 x.id msgB x.queue x.floor h.floor.1 h.qrise fun m hm => by have := h.qhigh m hm; omega
  · intro a ha b hb
    obtain ⟨m, hm, rfl⟩ := List.mem_map.1 hb
    split at ha
    · simp at ha
    · obtain rfl := List.mem_singleton.1 ha
      exact rkey_table 3 (by decide) x.id 0 m.seq
  · intro a ha b hb
    obtain rfl := List.mem_singleton.1 hb
    rcases List.mem_append.1 ha with ha | ha
    · split at ha
      · simp at ha
      · obtain rfl := List.mem_singleton.1 ha
        exact rkey_table 3 (by decide) x.id 0 0
    · obtain ⟨m, hm, rfl⟩ := List.mem_map.1 ha
      exact rkey_table 3 (by decide) x.id m.seq 0
theorem num_len2 {n : Int} (h : n < 16384) : (num n).length ≤ 2 := numB_len 1 _ (by unfold clampN; omega)
theorem num_len1 {n : Int} (h : n < 128) : (num n).length ≤ 1 := numB_len 0 _ (by unfold clampN; omega)
theorem gaps_short : ∀ (l : List Int) (lo : Int) (n : Nat), 0 ≤ lo → Rise lo l → (∀ a ∈ l, a < n) → n ≤ 16384 → (gapsB lo l).length ≤ 2 * l.length
  | [], _, _, _, _, _, _ => by simp [gapsB]
  | a :: l, lo, n, h0, h, hh, hn => by
    have h1 := h.1
    have h2 := hh a (by simp)
    have h3 : w64 (a - lo) = a - lo := Go.IntWalk.i64_in _ (by omega)
    have h4 := num_len2 (n := a - lo) (by omega)
    have h5 := gaps_short l a n (by omega) h.2 (fun x hx => hh x (by simp [hx])) hn
    rw [gapsB, h3]
    simp; omega
theorem topic_short {v : List UInt8} (h : TopicOk v) : v.length ≤ 3 := by rcases h with rfl | rfl | rfl | rfl <;> decide
theorem want_short {v : List UInt8} (h : WantOk v) : v.length ≤ 7 := by rcases h with rfl | rfl | rfl <;> decide
theorem attr_short {c m l : Int} {x : Msg} (h : MsgOk c m l x) : x.attr.length ≤ 3 := by rcases h.attr with e | e | e <;> rw [e] <;> decide
theorem acksB_short {id clock next : Nat} {x : Sub} (h : Grown id clock next x) (hn : next ≤ 16384) : (acksB x).length ≤ 150 := by
  have h1 := num_len1 (n := x.acks.length) (by have := h.nacks; omega)
  have h2 := gaps_short x.acks x.floor next h.floor.1 h.rise h.high hn
  have h3 := h.nacks
  rw [acksB]; simp; omega
theorem msgB_short {c m l : Int} {x : Msg} (h : MsgOk c m l x) : (msgB x).length ≤ 150 := by
  have h1 := txt_len x.body
  have h2 := txt_len x.attr
  have h3 := h.body
  have h4 := attr_short h
  have h5 := num_len x.tries
  have h6 := num_len x.until_
  have h7 := num_len x.prio
  have h8 := num_len (deathN x)
  rw [msgB]; simp; omega
theorem subB_short {id clock next : Nat} {x : Sub} (h : Grown id clock next x) : (subB x).length ≤ 150 := by
  have h1 := txt_len x.name
  have h2 := txt_len x.topic
  have h3 := txt_len x.want
  have h4 := txt_len x.note
  have h5 := num_len x.lease
  have h6 := num_len x.most
  have h7 := num_len x.floor
  have h8 := h.nlen
  have h9 := topic_short h.topic
  have ha := want_short h.want
  have hb := h.note
  rw [subB]; simp; omega
theorem enc3_row {id clock next : Nat} {x : Sub} (h : Grown id clock next x) (hn : next ≤ 16384) {r : Row} (hr : r ∈ enc3 x) : (∃ t seq, (97 ≤ t.toNat ∧ t.toNat ≤ 122) ∧ r.key = rkey 3 t x.id seq) ∧ r.val.length ≤ 150 := by
  rw [enc3] at hr
  rcases List.mem_append.1 hr with hr | hr
  · rcases List.mem_append.1 hr with hr | hr
    · split at hr
      · simp at hr
      · obtain rfl := List.mem_singleton.1 hr
        exact ⟨⟨97, 0, by decide, rfl⟩, acksB_short h hn⟩
    · obtain ⟨m, hm, rfl⟩ := List.mem_map.1 hr
      exact ⟨⟨113, m.seq, by decide, rfl⟩, msgB_short (h.msgs m hm)⟩
  · obtain rfl := List.mem_singleton.1 hr
    exact ⟨⟨115, 0, by decide, rfl⟩, subB_short h⟩
end Go.Proofs.YtkbmkhhcppfcnaaGreatDoor
end
section
set_option linter.unusedVariables false
namespace Go.Proofs.YtkbmkhhcppfcnaaGreatDoor
open Go.Al
def leS (a b : List UInt8) : Bool := ltS a b || decide (a = b)
def upTo (l : List Row) : Nat → Bool
  | 0 => true
  | i + 1 => upTo l i && (decide (i = 0) || !leS ((l[i]?.getD ⟨[], []⟩).key) ((l[i - 1]?.getD ⟨[], []⟩).key))
theorem upTo_false {l : List Row} : ∀ {n i : Nat}, i ≤ n → upTo l i = false → upTo l n = false
  | 0, i, h, e => by
    have : i = 0 := by omega
    subst this; exact e
  | n + 1, i, h, e => by
    by_cases hi : i = n + 1
    · subst hi; exact e
    · rw [upTo, upTo_false (show i ≤ n by omega) e]; rfl
theorem upTo_up {l : List Row} (h : Up l) : ∀ i, i ≤ l.length → upTo l i = true
  | 0, _ => rfl
  | i + 1, hi => by
    rw [upTo, upTo_up h i (by omega)]
    by_cases h0 : i = 0
    · simp [h0]
    · obtain ⟨j, rfl⟩ : ∃ j, i = j + 1 := ⟨i - 1, by omega⟩
      have ga : l[j]? = some (l[j]'(by omega)) := by simp
      have gb : l[j + 1]? = some (l[j + 1]'(by omega)) := by simp
      have := ltS_not_le (h.get ga gb)
      simp only [leS, Nat.add_sub_cancel, ga, gb, Option.getD_some]
      rw [this]; simp
def note2 (x : Sub) : List Row := if x.note = [] then [] else [⟨rkey 2 110 x.id 0, txt x.note⟩]
def ack2 (x : Sub) : List Row := if x.acks = [] then [] else [⟨rkey 2 97 x.id 0, acksB x⟩]
def b2 (id : Int) (m : Msg) : Row := ⟨rkey 2 98 id m.seq, txt m.body⟩
def qB2 (m : Msg) : List UInt8 := txt m.attr ++ (num m.tries ++ (num m.until_ ++ num (deadN m)))
def q2 (id : Int) (m : Msg) : Row := ⟨rkey 2 113 id m.seq, qB2 m⟩
def sB2 (x : Sub) : List UInt8 := txt x.name ++ (txt x.topic ++ (txt x.want ++ (num x.lease ++ (num x.most ++ num x.floor))))
def s2 (x : Sub) : Row := ⟨rkey 2 115 x.id 0, sB2 x⟩
def x2 (id : Int) (m : Msg) : List Row := if m.prio ≠ 0 ∨ m.dead = true then [⟨rkey 2 120 id m.seq, xB m⟩] else []
def enc2 (x : Sub) : List Row := ack2 x ++ x.queue.map (b2 x.id) ++ note2 x ++ x.queue.map (q2 x.id) ++ [s2 x] ++ x.queue.flatMap (x2 x.id)
end Go.Proofs.YtkbmkhhcppfcnaaGreatDoor
end
section
set_option linter.unusedVariables false
set_option linter.unusedSimpArgs false
set_option maxRecDepth 100000
set_option maxHeartbeats 1000000
namespace Go.Proofs.YtkbmkhhcppfcnaaGreatDoor
open Go.Al Go.RowKit
theorem deathR2_any (w0 : World) (m : Msg) : CallP Tryz.prog w0 34 [eMsg m] (.int .i64 (deathN m)) := by
  refine CallP.x Ty.tok Ty.mixed Tryz.func34 rfl Tryz.ntmps34 rfl (by simp) (by decide +kernel) fun σ => ?_
  (conv => whnf); refine SBox.f ?_; (conv => whnf)
  (refine SIf.x Ty.mixed (fun hc => ?_) (fun hc => ?_) <;> (conv => whnf))
  rotate_left
  (refine SIf.x Ty.mixed (fun hc => ?_) (fun hc => ?_) <;> (conv => whnf))
  rotate_left; rotate_left
  all_goals refine .p (.refl _) ?_
  all_goals simp_all [deathN]
theorem deadR2_any (w0 : World) (m : Msg) : CallP Tryz.prog w0 33 [eMsg m] (.int .i64 (deadN m)) := by
  refine CallP.x Ty.tok Ty.mixed Tryz.func33 rfl Tryz.ntmps33 rfl (by simp) (by decide +kernel) fun σ => ?_
  (conv => whnf); refine SBox.f ?_; (conv => whnf)
  (refine SIf.x Ty.mixed (fun hc => ?_) (fun hc => ?_) <;> (conv => whnf))
  rotate_left; rotate_left
  all_goals refine .p (.refl _) ?_
  all_goals simp_all [deadN]
theorem rowR2_no (w0 : World) (hL : Laid w0) (t : UInt8) (id seq : Int) (b : List UInt8) : CallP Tryz.prog w0 29 [.int .u8 t.toNat, .int .i64 id, .int .i64 seq, .slc 1 (aBytes b) .no] (eRow ⟨rkey 2 t id seq, b⟩) := by
  refine CallP.x Ty.tok Ty.mixed Tryz.func29 rfl Tryz.ntmps29 rfl (by simp) (by decide +kernel) fun σ => ?_
  (conv => whnf); intro b1 hb1; (conv => whnf); refine SCall.p (by exact keyR_any w0 hL 2 (by omega) t _ _) ?_; (conv => whnf); refine SStore.on 0 rfl ?_; (conv => whnf); refine SLoad.on 0 rfl ?_; (conv => whnf)
  exact .p (by repeat (first | assumption | exact .refl _ | refine le_new2 ?_ (by assumption) | refine le_new ?_ (by assumption) | refine le_setBox ?_ (by first | assumption | exact none_in (by assumption) | exact none_in (none_in (by assumption)) | exact none_in (none_in (none_in (by assumption))) | fail) | exact Moves.le (by assumption) | refine .trans ?_ (Moves.le (by assumption)))) rfl
theorem rowR2_any (w0 : World) (hL : Laid w0) (t : UInt8) (id seq : Int) (b : List UInt8) (tw : Tok) : CallP Tryz.prog w0 29 [.int .u8 t.toNat, .int .i64 id, .int .i64 seq, .slc 1 (aBytes b) tw] (eRow ⟨rkey 2 t id seq, b⟩) := fun σ =>
  CallW.weak1 [_, _, _] [] (.tok 1 (aBytes b) tw) (rowR2_no w0 hL t id seq b σ)
theorem refnum2_room (w0 : World) (b : List UInt8) (tk : Tok) (n : Int) (hb : b.length ≤ 1000000000) (σ : St) (hr : Room σ tk) : CallW Tryz.prog w0 32 [.slc 1 (aBytes b) tk, .int .i64 n] σ (fun r σ' => ∃ tk', r = .slc 1 (aBytes (b ++ num n)) tk' ∧ Moves σ tk σ' tk') := by
  refine CallW.x Ty.tok Ty.mixed Tryz.func32 rfl Tryz.ntmps32 rfl (by simp) (by decide +kernel) (.nil σ) ?_
  have hl := num_len n
  (conv => whnf); refine SCall.p (by exact fun σ => (numR_room w0 _ σ).room) ?_; (conv => whnf)
  refine SApp.c rfl rfl (by exact Moves.refl hr) (by simp only [length_aBytes, List.length_append, List.length_cons, List.length_nil, List.length_map, List.length_range]; omega) fun tk1 σ1 hm => ?_
  (conv => whnf)
  exact .w ⟨tk1, by rw [aBytes_append], hm⟩
theorem reftext2_room (w0 : World) (b : List UInt8) (tk : Tok) (s : List UInt8) (hb : b.length ≤ 1000000000) (hs : s.length ≤ 1000000) (σ : St) (hr : Room σ tk) : CallW Tryz.prog w0 31 [.slc 1 (aBytes b) tk, .str s] σ (fun r σ' => ∃ tk', r = .slc 1 (aBytes (b ++ txt s)) tk' ∧ Moves σ tk σ' tk') := by
  refine CallW.x Ty.tok Ty.mixed Tryz.func31 rfl Tryz.ntmps31 rfl (by simp) (by decide +kernel) (.nil σ) ?_
  have hl := num_len s.length
  have ht : (txt s).length ≤ 2000000 := by simp [txt]; omega
  (conv => whnf); refine SCall.p (by exact fun σ => (textR_room w0 _ (by omega) σ).room) ?_; (conv => whnf)
  refine SApp.c rfl rfl (by exact Moves.refl hr) (by simp only [length_aBytes, List.length_append, List.length_cons, List.length_nil, List.length_map, List.length_range]; omega) fun tk1 σ1 hm => ?_
  (conv => whnf)
  exact .w ⟨tk1, by rw [aBytes_append], hm⟩
end Go.Proofs.YtkbmkhhcppfcnaaGreatDoor
end
section
set_option linter.unusedVariables false
set_option linter.unusedSimpArgs false
set_option maxRecDepth 100000
set_option maxHeartbeats 400000
namespace Go.Proofs.YtkbmkhhcppfcnaaGreatDoor
open Go.Al Go.RowKit
theorem lay_any (w0 : World) (hL : Laid w0) {σ0 σ : St} {bo : Nat} {rows : List Row} {x : Sub} {t : UInt8} {seq : Int} {b : List UInt8} {tw tk tk0 : Tok} (hm : Moves (σ0.setBox bo [.slc 2 (rows.map eRow) tk]) tk0 σ tk) (hl : rows.length ≤ 1000000) :
    CallW Tryz.prog w0 57 [.int .u8 t.toNat, .int .i64 seq, .slc 1 (aBytes b) tw, .ptr bo 0, .vp (eSub x)] σ (fun r s => r = .tup [] ∧ ∃ tk', Moves (σ0.setBox bo [.slc 2 ((rows ++ [(⟨rkey 3 t x.id seq, b⟩ : Row)]).map eRow) tk']) tk0 s tk') := by
  refine CallW.weak1 [_, _] [_, _] (.tok 1 (aBytes b) tw) ?_
  refine CallW.start Tryz.func57 rfl Tryz.ntmps57 (by simp) fun Q hQ => ?_
  refine W.regionDK 1 [] Ty.mixed (by decide +kernel) (by decide +kernel) rfl ?_; apply r_load; exact rfl; exact rfl; exact rfl; decide; exact rfl; apply hb_moves (by assumption); exact setBox_same; exact aLoad1 rfl; apply r_op; exact rfl; exact rfl; apply a_move; (conv => (lhs; whnf)); apply r_op; exact rfl; exact rfl; apply g_fieldAddr; exact a_fieldAddr1 rfl (by decide) rfl; apply r_op
  exact rfl; exact rfl; apply g_load; exact a_load1 rfl rfl; apply r_op; exact rfl; exact rfl; apply a_move; (conv => (lhs; whnf)); apply r_callP; exact rfl; exact rfl; exact rfl; exact rfl; exact rfl; infer_instance; exact keyS_any w0 hL 3 (by omega) t _ _; apply r_op; exact rfl; exact rfl; apply a_move; (conv => (lhs; whnf)); apply r_op; exact rfl; exact rfl; apply g_build; apply a_build
  apply EvP.cons (by (conv => (lhs; whnf))); apply EvP.cons (by (conv => (lhs; whnf))); exact EvP.nil
  simp only [aFill, List.getElem?_cons_zero, List.getElem?_cons_succ, AV.cells, List.length_cons, List.length_nil, AV.flat, AV.one, setL, List.set_cons_zero, List.set_cons_succ, Nat.reduceAdd, Nat.reduceLeDiff, Nat.reduceMul, and_self, if_true, ↓reduceIte, Nat.zero_add, Nat.le_refl, List.range, List.range.loop, List.map_cons, List.map_nil, Nat.zero_le]
  rfl; apply r_op; exact rfl; exact rfl; apply g_buildSlice; apply a_build1; (conv => (lhs; whnf)); exact rfl; exact rfl; decide; apply r_append'; exact rfl; exact rfl; decide; infer_instance; exact rfl; exact rfl; exact rfl; exact rfl; exact rfl; assumption
  simp only [length_aBytes, List.length_append, List.length_cons, List.length_nil, List.length_map, List.length_range]
  omega; intro tk1 σ1 hm; apply r_store; exact rfl; exact rfl; exact rfl; decide; infer_instance; exact rfl; apply hb_moves (by assumption); exact setBox_same; (conv => (lhs; whnf)); exact rfl; (conv => (lhs; whnf)); exact rfl; exact of_decide_eq_true rfl; exact setL_whole rfl; (with_reducible refine runs_done ?_); refine post_n hQ rfl rfl ⟨rfl, tk1, ?_⟩
  have h9 := hm.set bo [.slc 2 ((rows ++ [(⟨rkey 3 t x.id seq, b⟩ : Row)]).map eRow) tk1]
  rw [setBox_setBox] at h9
  rw [List.map_append] at h9 ⊢
  exact h9
theorem bd_num (n : Int) : (num n).length ≤ 8 := num_len n
theorem bd_txt {s : List UInt8} (h : s.length ≤ 1000) : (txt s).length ≤ 1008 := by have := txt_len s; omega
theorem bd_app {a b : List UInt8} {n m : Nat} (h : a.length ≤ n) (k : b.length ≤ m) : (a ++ b).length ≤ n + m := by simp; omega
theorem bd_nil : ([] : List UInt8).length ≤ 0 := Nat.le_refl _
theorem bd_nums (l : List Int) : (numsB l).length ≤ 8 * l.length := numsB_len l
end Go.Proofs.YtkbmkhhcppfcnaaGreatDoor
end
section
set_option linter.unusedVariables false
set_option linter.unusedSimpArgs false
set_option maxRecDepth 100000
set_option maxHeartbeats 1000000
namespace Go.Proofs.YtkbmkhhcppfcnaaGreatDoor
open Go.Al Go.RowKit
def preR (x : Sub) : List Row := if x.acks = [] then [] else [⟨rkey 3 97 x.id 0, acksB x⟩]
theorem preR_len (x : Sub) : (preR x).length ≤ 1 := by unfold preR; split <;> simp
theorem enc3_eq (x : Sub) : enc3 x = (preR x ++ x.queue.map (msgRow x.id)) ++ [⟨rkey 3 115 x.id 0, subB x⟩] := rfl
theorem map_take_snoc {α β : Type} (f : α → β) {l : List α} {i : Nat} {a : α} (h : l[i]? = some a) : (l.take (i + 1)).map f = (l.take i).map f ++ [f a] := by rw [take_snoc h, List.map_append]; rfl
theorem bd_txts (l : List (List UInt8)) (h : ∀ a ∈ l, a.length ≤ 1000) : (txtsB l).length ≤ 1008 * l.length := txtsB_len l h
theorem all1 {a : List UInt8} (h : a.length ≤ 1000) : ∀ b ∈ [a], b.length ≤ 1000 := by simpa using h
theorem all2 {a b : List UInt8} (h : a.length ≤ 1000) (k : b.length ≤ 1000) : ∀ c ∈ [a, b], c.length ≤ 1000 := by simp; exact ⟨h, k⟩
theorem all3 {a b c : List UInt8} (h : a.length ≤ 1000) (k : b.length ≤ 1000) (l : c.length ≤ 1000) : ∀ d ∈ [a, b, c], d.length ≤ 1000 := by simp; exact ⟨h, k, l⟩
theorem encW_room (w0 : World) (hL : Laid w0) (x : Sub) (hx : Fits x) (σ : St) : CallW Tryz.prog w0 16 [eSub x] σ (fun r s => ∃ tk', r = .slc 2 ((enc3 x).map eRow) tk' ∧ Moves σ .full s tk') := by
  refine CallW.start Tryz.func16 rfl Tryz.ntmps16 (by simp) fun Q hQ => ?_
  refine W.seq ?_; refine W.regionL (by decide +kernel) rfl ?_; apply r_boxF; exact rfl; exact rfl; exact rfl; (conv => (lhs; whnf)); exact rfl; apply r_op; exact rfl; exact rfl; apply a_assign; (conv => (lhs; whnf)); (with_reducible refine runs_done ?_); refine W.seq ?_; refine W.regionL (by decide +kernel) rfl ?_; apply r_allocN; exact rfl; exact rfl; decide; infer_instance; exact rfl; exact rfl
  intro b1 hb1; (with_reducible refine runs_done ?_); refine W.seq ?_; refine W.regionL (by decide +kernel) rfl ?_; apply r_op; exact rfl; exact rfl; exact a_makeFunc rfl rfl; apply r_op; exact rfl; exact rfl; apply a_assign; (conv => (lhs; whnf)); (with_reducible refine runs_done ?_); refine W.seq ?_; refine W.seq ?_; refine W.regionL (by decide +kernel) rfl ?_; apply r_op; exact rfl; exact rfl
  apply g_fieldAddr; exact a_fieldAddr1 rfl (by decide) rfl; apply r_op; exact rfl; exact rfl; apply g_load; exact a_load1 rfl rfl; apply r_op; exact rfl; exact rfl; apply g_call; exact a_len_slc rfl; apply r_op; exact rfl; exact rfl; apply g_binOp; exact a_binI rfl rfl rfl; (with_reducible refine runs_done ?_)
  rename Nat => bo
  have hbo : σ.box bo = none := hb1
  have hmo : Moves (σ.setBox bo [.slc 2 (([] : List Row).map eRow) .full]) .full (σ.setBox bo [.slc 2 [] .full]) .full := Moves.full _
  have hlo : ([] : List Row).length ≤ 1000000 := by simp
  refine W.meet (fun E s => ∃ tk, Moves (σ.setBox bo [.slc 2 ((preR x).map eRow) tk]) .full s tk ∧ Has [(1, .vp (eSub x)), (3, .ptr bo 0), (4, .fn (.func 57) [] [.ptr bo 0, .vp (eSub x)])] E) ?_ ?_
  · refine W.cond rfl (fun hc => ?_) (fun hc => ?_)
    · have hne : x.acks ≠ [] := by rintro e; simp [e] at hc
      refine W.seq ?_; refine W.regionL (by decide +kernel) rfl ?_; apply r_allocN; exact rfl; exact rfl; decide; infer_instance; exact rfl; exact rfl; intro b1 hb1; (with_reducible refine runs_done ?_); refine W.seq ?_; refine W.regionL (by decide +kernel) rfl ?_; apply r_op; exact rfl; exact rfl; apply g_fieldAddr; exact a_fieldAddr1 rfl (by decide) rfl; apply r_op; exact rfl; exact rfl
      apply g_load; exact a_load1 rfl rfl; apply r_op; exact rfl; exact rfl; apply g_call; exact a_len_slc rfl; apply r_op; exact rfl; exact rfl; apply g_buildSlice; apply a_build1; (conv => (lhs; whnf)); exact rfl; exact rfl; decide; apply r_callB; exact rfl; exact rfl; decide; exact rfl; exact rfl; exact rfl; infer_instance; exact writerNum w0 (acc := []) [_] (Moves.full _) (by simp) (by simp)
      intro tk1 σ1 hm; (with_reducible refine runs_done ?_); refine W.seq ?_; refine W.regionL (by decide +kernel) rfl ?_; apply r_op; exact rfl; exact rfl; apply g_fieldAddr; exact a_fieldAddr1 rfl (by decide) rfl; apply r_op; exact rfl; exact rfl; apply g_load; exact a_load1 rfl rfl; apply r_op; exact rfl; exact rfl; apply a_assign; (conv => (lhs; whnf)); (with_reducible refine runs_done ?_)
      refine W.seq ?_; refine W.seq ?_; refine W.regionL (by decide +kernel) rfl ?_; apply r_op; exact rfl; exact rfl; apply g_fieldAddr; exact a_fieldAddr1 rfl (by decide) rfl; apply r_op; exact rfl; exact rfl; apply g_load; exact a_load1 rfl rfl; apply r_op; exact rfl; exact rfl; apply g_call; exact a_len_slc rfl; apply r_op; exact rfl; exact rfl; apply a_move; (conv => (lhs; whnf))
      (with_reducible refine runs_done ?_); refine W.block ?_
      generalize hS : σ.setBox bo [.slc 2 [] .full] = S at *
      rename Nat => bw
      refine W.loop (fun k E s => ∃ (i : Nat) (acc : List UInt8) (last : Int) (tk : Tok), i ≤ x.acks.length ∧ k = x.acks.length - i ∧ acc.length ≤ 8 + 8 * i ∧ acc ++ gapsB last (x.acks.drop i) = acksB x ∧ Moves (S.setBox bw [.slc 1 (aBytes acc) tk]) .full s tk ∧ Has [(1, .vp (eSub x)), (3, .ptr bo 0), (4, .fn (.func 57) [] [.ptr bo 0, .vp (eSub x)]), (5, .ptr bw 0), (6, .int .i64 last), (26, eInts x.acks), (27, .int .i64 x.acks.length), (28, .int .i64 i)] E) x.acks.length ⟨0, num x.acks.length, x.floor, tk1, Nat.zero_le _, rfl, by have := num_len x.acks.length; omega, rfl, ?_, ?_⟩ ?_
      · simpa [numsB] using hm
      · rw [List.length_map]
        exact Has.by (by repeat (first | exact trivial | refine ⟨by first | trivial | exact Weak.refl _ | exact Weak.tok _ _ _ | exact Weak.of_eq (congrArg (AV.int _) (by omega)) | exact Weak.nils _ _ (.inr rfl), ?_⟩))
      · rintro k E s ⟨i, acc, last, tk, hi, rfl, hlen, hacc, hm, hE⟩
        refine W.has hE ?_; clear hE
        have hna := hx.nacks
        have hq : acc.length ≤ 1000000 := by omega
        refine W.seq ?_; refine W.regionL (by decide +kernel) rfl ?_; apply r_op; exact rfl; exact rfl; apply g_binOp; exact a_binI rfl rfl rfl; (with_reducible refine runs_done ?_); refine W.seq ?_; refine W.cond rfl (fun hc => ?_) (fun hc => ?_)
        · have hlt : i < x.acks.length := by simp at hc; omega
          have ga : x.acks[i]? = some x.acks[i] := by simp [hlt]
          have hd := gapsB_drop ga last
          have h8 := num_len (w64 (x.acks[i] - last))
          generalize x.acks[i] = a at ga hd h8
          refine W.skip ?_; show W _ _ _ _ _ _ _; refine W.seq ?_; refine W.block ?_; refine W.seq ?_; refine W.regionL (by decide +kernel) rfl ?_; apply r_op; exact rfl; exact rfl; apply g_indexAddr; exact a_indexAddr rfl rfl (by decide) (by omega) (by exact get_map (by assumption)); apply r_op; exact rfl; exact rfl; apply g_load; exact a_load1 rfl rfl; apply r_op; exact rfl; exact rfl
          apply a_assign; (conv => (lhs; whnf)); (with_reducible refine runs_done ?_); refine W.seq ?_; refine W.regionL (by decide +kernel) rfl ?_; apply r_op; exact rfl; exact rfl; apply a_move; (conv => (lhs; whnf)); apply r_op; exact rfl; exact rfl; apply a_move; (conv => (lhs; whnf)); apply r_op; exact rfl; exact rfl; apply g_binOp; exact a_binI rfl rfl rfl; apply r_op; exact rfl; exact rfl
          apply g_buildSlice; apply a_build1; (conv => (lhs; whnf)); exact rfl; exact rfl; decide; apply r_callB; exact rfl; exact rfl; decide; exact rfl; exact rfl; exact rfl; infer_instance; exact writerNum w0 [_] (by assumption) (by exact Nat.le_trans (by assumption) (by omega)) (by simp); intro tk1 σ1 hm; (with_reducible refine runs_done ?_); refine W.regionL (by decide +kernel) rfl ?_
          apply r_op; exact rfl; exact rfl; apply a_move; (conv => (lhs; whnf)); apply r_op; exact rfl; exact rfl; apply a_assign; (conv => (lhs; whnf)); (with_reducible refine runs_done ?_); refine W.regionL (by decide +kernel) rfl ?_; apply r_op; exact rfl; exact rfl; apply g_binOp; exact a_add64 rfl rfl (by omega); apply r_op; exact rfl; exact rfl; apply a_move; (conv => (lhs; whnf))
          (with_reducible refine runs_done ?_)
          exact ⟨x.acks.length - (i + 1), by omega, i + 1, acc ++ numsB [w64 (a - last)], a, tk1, by omega, rfl, by simp [numsB]; omega, by rw [← hacc, hd]; simp [numsB], hm, by exact Has.by (by repeat (first | exact trivial | refine ⟨by first | trivial | exact Weak.refl _ | exact Weak.tok _ _ _ | exact Weak.of_eq (congrArg (AV.int _) (by omega)) | exact Weak.nils _ _ (.inr rfl), ?_⟩))⟩
        · have hge : i = x.acks.length := by simp at hc; omega
          rw [hge, List.drop_length, gapsB, List.append_nil] at hacc
          subst hacc
          refine W.exit ?_; show W _ _ _ _ _ _ _; refine W.regionL (by decide +kernel) rfl ?_; apply r_op; exact rfl; exact rfl; apply a_move; (conv => (lhs; whnf)); apply r_load; exact rfl; exact rfl; exact rfl; decide; exact rfl; apply hb_moves (by assumption); exact setBox_same; exact aLoad1 rfl; apply r_callB; exact rfl; exact rfl; decide; exact rfl; exact rfl; exact rfl; infer_instance
          exact lay_any w0 hL (t := 97) (Moves.more (by assumption) (Moves.in (by assumption) (by assumption))) (by assumption); intro tk1 σ1 hm; (with_reducible refine runs_done ?_)
          rw [preR, if_neg hne]
          exact ⟨tk1, hm, by exact Has.by (by repeat (first | exact trivial | refine ⟨by first | trivial | exact Weak.refl _ | exact Weak.tok _ _ _ | exact Weak.of_eq (congrArg (AV.int _) (by omega)) | exact Weak.nils _ _ (.inr rfl), ?_⟩))⟩
    · have hne : x.acks = [] := by simpa using hc
      refine W.skip ?_
      rw [preR, if_pos hne]
      exact ⟨.full, hmo, by exact Has.by (by repeat (first | exact trivial | refine ⟨by first | trivial | exact Weak.refl _ | exact Weak.tok _ _ _ | exact Weak.of_eq (congrArg (AV.int _) (by omega)) | exact Weak.nils _ _ (.inr rfl), ?_⟩))⟩
  · rintro E s ⟨tk, hm, hE⟩
    refine W.has hE ?_; clear hE; refine W.seq ?_; refine W.seq ?_; refine W.regionL (by decide +kernel) rfl ?_; apply r_op; exact rfl; exact rfl; apply g_fieldAddr; exact a_fieldAddr1 rfl (by decide) rfl; apply r_op; exact rfl; exact rfl; apply g_load; exact a_load1 rfl rfl; apply r_op; exact rfl; exact rfl; apply g_call; exact a_len_slc rfl; apply r_op; exact rfl; exact rfl; apply a_move
    (conv => (lhs; whnf)); (with_reducible refine runs_done ?_); refine W.block ?_
    refine W.loop (fun k E s => ∃ (i : Nat) (tk : Tok), i ≤ x.queue.length ∧ k = x.queue.length - i ∧ Moves (σ.setBox bo [.slc 2 ((preR x ++ (x.queue.take i).map (msgRow x.id)).map eRow) tk]) .full s tk ∧ Has [(1, .vp (eSub x)), (3, .ptr bo 0), (4, .fn (.func 57) [] [.ptr bo 0, .vp (eSub x)]), (43, eMsgs x.queue), (44, .int .i64 x.queue.length), (45, .int .i64 i)] E) x.queue.length ⟨0, tk, Nat.zero_le _, rfl, by rw [List.take_zero, List.map_nil, List.append_nil]; exact hm, ?_⟩ ?_
    · rw [List.length_map]
      exact Has.by (by repeat (first | exact trivial | refine ⟨by first | trivial | exact Weak.refl _ | exact Weak.tok _ _ _ | exact Weak.of_eq (congrArg (AV.int _) (by omega)) | exact Weak.nils _ _ (.inr rfl), ?_⟩))
    · rintro k E s ⟨i, tk, hi, rfl, hm, hE⟩
      refine W.has hE ?_; clear hE
      have hp := preR_len x
      have hnq := hx.nqueue
      have htk := List.length_take_le i x.queue
      have hlo : (preR x ++ (x.queue.take i).map (msgRow x.id)).length ≤ 1000000 := by simp; omega
      refine W.seq ?_; refine W.regionL (by decide +kernel) rfl ?_; apply r_op; exact rfl; exact rfl; apply g_binOp; exact a_binI rfl rfl rfl; (with_reducible refine runs_done ?_); refine W.seq ?_; refine W.cond rfl (fun hc => ?_) (fun hc => ?_)
      · have hlt : i < x.queue.length := by simp at hc; omega
        have ga : x.queue[i]? = some x.queue[i] := by simp [hlt]
        have hd := map_take_snoc (msgRow x.id) ga
        obtain ⟨hb1, hb2⟩ := hx.queue _ (List.mem_of_getElem? ga)
        generalize x.queue[i] = m at ga hd hb1 hb2
        refine W.skip ?_; show W _ _ _ _ _ _ _; refine W.seq ?_; refine W.block ?_; refine W.seq ?_; refine W.regionL (by decide +kernel) rfl ?_; apply r_op; exact rfl; exact rfl; apply g_indexAddr; exact a_indexAddr rfl rfl (by decide) (by omega) (by exact get_map (by assumption)); apply r_op; exact rfl; exact rfl; apply g_load; exact a_loadA rfl (by rfl) rfl; apply r_alloc; exact rfl; exact rfl
        decide; exact rfl; (conv => (lhs; whnf)); intro b1 hb1; apply r_store; exact rfl; exact rfl; exact rfl; decide; infer_instance; exact rfl; exact setBox_same; (conv => (lhs; whnf)); exact rfl; (conv => (lhs; whnf)); exact rfl; exact of_decide_eq_true rfl; exact setL_whole rfl; refine runs_done ?_; show W _ _ _ _ _ _ _; refine W.freeze1 10 (eMsg m) (by assumption) rfl rfl rfl ?_
        refine W.seq ?_; refine W.regionL (by decide +kernel) rfl ?_; apply r_allocN; exact rfl; exact rfl; decide; infer_instance; exact rfl; exact rfl; intro b1 hb1; (with_reducible refine runs_done ?_); refine W.seq ?_; refine W.regionL (by decide +kernel) rfl ?_; apply r_op; exact rfl; exact rfl; apply g_fieldAddr; exact a_fieldAddr1 rfl (by decide) rfl; apply r_op; exact rfl; exact rfl
        apply g_load; exact a_load1 rfl rfl; apply r_op; exact rfl; exact rfl; apply g_fieldAddr; exact a_fieldAddr1 rfl (by decide) rfl; apply r_op; exact rfl; exact rfl; apply g_load; exact a_load1 rfl rfl; apply r_op; exact rfl; exact rfl; apply g_buildSlice; apply a_buildN; apply EvP.cons (by (conv => (lhs; whnf))); apply EvP.cons (by (conv => (lhs; whnf))); exact EvP.nil; (conv => (lhs; whnf))
        exact rfl; exact rfl; decide; apply r_callB; exact rfl; exact rfl; decide; exact rfl; exact rfl; exact rfl; infer_instance; exact writerText w0 (acc := []) [_, _] (Moves.full _) (by simp) (by simp) (by exact all2 (by assumption) (by assumption)); intro tk1 σ1 hm; (with_reducible refine runs_done ?_); refine W.seq ?_
        refine W.regionDK 0 [58] Ty.mixed (by decide +kernel) (by decide +kernel) rfl ?_; apply r_op; exact rfl; exact rfl; apply g_fieldAddr; exact a_fieldAddr1 rfl (by decide) rfl; apply r_op; exact rfl; exact rfl; apply g_load; exact a_load1 rfl rfl; apply r_op; exact rfl; exact rfl; apply g_fieldAddr; exact a_fieldAddr1 rfl (by decide) rfl; apply r_op; exact rfl; exact rfl
        apply g_load; exact a_load1 rfl rfl; apply r_op; exact rfl; exact rfl; apply g_fieldAddr; exact a_fieldAddr1 rfl (by decide) rfl; apply r_op; exact rfl; exact rfl; apply g_load; exact a_load1 rfl rfl; apply r_op; exact rfl; exact rfl; apply g_load; exact a_loadA rfl (by rfl) rfl; apply r_callP; exact rfl; exact rfl; exact rfl; exact rfl; exact rfl; infer_instance; exact death_any w0 _
        apply r_op; exact rfl; exact rfl; apply g_buildSlice; apply a_buildN; apply EvP.cons (by (conv => (lhs; whnf))); apply EvP.cons (by (conv => (lhs; whnf))); apply EvP.cons (by (conv => (lhs; whnf))); apply EvP.cons (by (conv => (lhs; whnf))); exact EvP.nil; (conv => (lhs; whnf)); exact rfl; exact rfl; decide; apply r_callB; exact rfl; exact rfl; decide; exact rfl; exact rfl; exact rfl
        infer_instance
        exact writerNum w0 [_, _, _, _] (by assumption) (by exact Nat.le_trans (by exact bd_txts _ (by exact all2 (by assumption) (by assumption))) (by simp only [List.length_cons, List.length_nil]; omega)) (by simp)
        intro tk1 σ1 hm; (with_reducible refine runs_done ?_); refine W.regionL (by decide +kernel) rfl ?_; apply r_op; exact rfl; exact rfl; apply a_move; (conv => (lhs; whnf)); apply r_op; exact rfl; exact rfl; apply g_fieldAddr; exact a_fieldAddr1 rfl (by decide) rfl; apply r_op; exact rfl; exact rfl; apply g_load; exact a_load1 rfl rfl; apply r_load; exact rfl; exact rfl; exact rfl; decide
        exact rfl; apply hb_moves (by assumption); exact setBox_same; exact aLoad1 rfl; apply r_callB; exact rfl; exact rfl; decide; exact rfl; exact rfl; exact rfl; infer_instance; exact lay_any w0 hL (t := 113) (Moves.more (by assumption) (Moves.in (by assumption) (by assumption))) (by assumption); intro tk1 σ1 hm; (with_reducible refine runs_done ?_); refine W.regionL (by decide +kernel) rfl ?_
        apply r_op; exact rfl; exact rfl; apply g_binOp; exact a_add64 rfl rfl (by omega); apply r_op; exact rfl; exact rfl; apply a_move; (conv => (lhs; whnf)); (with_reducible refine runs_done ?_)
        refine ⟨x.queue.length - (i + 1), by omega, i + 1, tk1, by omega, rfl, ?_, by exact Has.by (by repeat (first | exact trivial | refine ⟨by first | trivial | exact Weak.refl _ | exact Weak.tok _ _ _ | exact Weak.of_eq (congrArg (AV.int _) (by omega)) | exact Weak.nils _ _ (.inr rfl), ?_⟩))⟩
        have e : msgRow x.id m = ⟨rkey 3 113 x.id m.seq, [] ++ txtsB [m.body, m.attr] ++ numsB [m.tries, m.until_, m.prio, deathN m]⟩ := by simp [msgRow, msgB, txtsB, numsB]
        rw [hd, ← List.append_assoc, e]
        exact hm
      · have hge : i = x.queue.length := by simp at hc; omega
        rw [hge, List.take_length] at hm hlo
        obtain ⟨hs1, hs2, hs3, hs4⟩ := And.intro hx.name (And.intro hx.topic (And.intro hx.want hx.note))
        refine W.exit ?_; show W _ _ _ _ _ _ _; refine W.seq ?_; refine W.regionL (by decide +kernel) rfl ?_; apply r_allocN; exact rfl; exact rfl; decide; infer_instance; exact rfl; exact rfl; intro b1 hb1; (with_reducible refine runs_done ?_); refine W.seq ?_; refine W.regionL (by decide +kernel) rfl ?_; apply r_op; exact rfl; exact rfl; apply g_fieldAddr; exact a_fieldAddr1 rfl (by decide) rfl
        apply r_op; exact rfl; exact rfl; apply g_load; exact a_load1 rfl rfl; apply r_op; exact rfl; exact rfl; apply g_fieldAddr; exact a_fieldAddr1 rfl (by decide) rfl; apply r_op; exact rfl; exact rfl; apply g_load; exact a_load1 rfl rfl; apply r_op; exact rfl; exact rfl; apply g_fieldAddr; exact a_fieldAddr1 rfl (by decide) rfl; apply r_op; exact rfl; exact rfl; apply g_load
        exact a_load1 rfl rfl; apply r_op; exact rfl; exact rfl; apply g_buildSlice; apply a_buildN; apply EvP.cons (by (conv => (lhs; whnf))); apply EvP.cons (by (conv => (lhs; whnf))); apply EvP.cons (by (conv => (lhs; whnf))); exact EvP.nil; (conv => (lhs; whnf)); exact rfl; exact rfl; decide; apply r_callB; exact rfl; exact rfl; decide; exact rfl; exact rfl; exact rfl; infer_instance
        exact writerText w0 (acc := []) [_, _, _] (Moves.full _) (by simp) (by simp) (by exact all3 (by assumption) (by assumption) (by assumption)); intro tk1 σ1 hm; (with_reducible refine runs_done ?_); refine W.seq ?_; refine W.regionL (by decide +kernel) rfl ?_; apply r_op; exact rfl; exact rfl; apply g_fieldAddr; exact a_fieldAddr1 rfl (by decide) rfl; apply r_op; exact rfl; exact rfl
        apply g_load; exact a_load1 rfl rfl; apply r_op; exact rfl; exact rfl; apply g_fieldAddr; exact a_fieldAddr1 rfl (by decide) rfl; apply r_op; exact rfl; exact rfl; apply g_load; exact a_load1 rfl rfl; apply r_op; exact rfl; exact rfl; apply g_fieldAddr; exact a_fieldAddr1 rfl (by decide) rfl; apply r_op; exact rfl; exact rfl; apply g_load; exact a_load1 rfl rfl; apply r_op; exact rfl
        exact rfl; apply g_buildSlice; apply a_buildN; apply EvP.cons (by (conv => (lhs; whnf))); apply EvP.cons (by (conv => (lhs; whnf))); apply EvP.cons (by (conv => (lhs; whnf))); exact EvP.nil; (conv => (lhs; whnf)); exact rfl; exact rfl; decide; apply r_callB; exact rfl; exact rfl; decide; exact rfl; exact rfl; exact rfl; infer_instance
        exact writerNum w0 [_, _, _] (by assumption) (by exact Nat.le_trans (by exact bd_txts _ (by exact all3 (by assumption) (by assumption) (by assumption))) (by simp only [List.length_cons, List.length_nil]; omega)) (by simp)
        intro tk1 σ1 hm; (with_reducible refine runs_done ?_); refine W.seq ?_; refine W.regionL (by decide +kernel) rfl ?_; apply r_op; exact rfl; exact rfl; apply g_fieldAddr; exact a_fieldAddr1 rfl (by decide) rfl; apply r_op; exact rfl; exact rfl; apply g_load; exact a_load1 rfl rfl; apply r_op; exact rfl; exact rfl; apply g_buildSlice; apply a_build1; (conv => (lhs; whnf)); exact rfl; exact rfl
        decide; apply r_callB; exact rfl; exact rfl; decide; exact rfl; exact rfl; exact rfl; infer_instance
        exact writerText w0 [_] (by assumption) (by exact Nat.le_trans (by apply bd_app; exact bd_txts _ (by exact all3 (by assumption) (by assumption) (by assumption)); exact bd_nums _) (by simp only [List.length_cons, List.length_nil]; omega)) (by simp) (by exact all1 (by assumption))
        intro tk1 σ1 hm; (with_reducible refine runs_done ?_); refine W.seq ?_; refine W.regionL (by decide +kernel) rfl ?_; apply r_op; exact rfl; exact rfl; apply a_move; (conv => (lhs; whnf)); apply r_load; exact rfl; exact rfl; exact rfl; decide; exact rfl; apply hb_moves (by assumption); exact setBox_same; exact aLoad1 rfl; apply r_callB; exact rfl; exact rfl; decide; exact rfl; exact rfl
        exact rfl; infer_instance; exact lay_any w0 hL (t := 115) (Moves.more (by assumption) (Moves.in (by assumption) (by assumption))) (by assumption); intro tk1 σ1 hm; (with_reducible refine runs_done ?_); refine W.seq ?_; refine W.regionL (by decide +kernel) rfl ?_; apply r_load; exact rfl; exact rfl; exact rfl; decide; exact rfl; apply hb_moves (by assumption); exact setBox_same
        exact aLoad1 rfl; apply r_op; exact rfl; exact rfl; apply a_assign; (conv => (lhs; whnf)); (with_reducible refine runs_done ?_); refine W.ret ?_; show Q Exit.ret _ _; refine post_p hQ rfl rfl ?_; refine ⟨tk1, ?_, hm.in hbo⟩
        rw [enc3_eq]
        show AV.slc 2 (List.map eRow (preR x ++ List.map (msgRow x.id) x.queue ++ [{ key := rkey 3 115 x.id 0, val := [] ++ txtsB [x.name, x.topic, x.want] ++ numsB [x.lease, x.most, x.floor] ++ txtsB [x.note] }])) tk1 = _
        congr 5
        simp [txtsB, numsB, subB]
end Go.Proofs.YtkbmkhhcppfcnaaGreatDoor
end
section
set_option linter.unusedVariables false
set_option linter.unusedSimpArgs false
set_option maxRecDepth 100000
set_option maxHeartbeats 1000000
namespace Go.Proofs.YtkbmkhhcppfcnaaGreatDoor
open Go.Al Go.RowKit
theorem acksR2_p (w0 : World) (x : Sub) (hl : x.acks.length ≤ 100000) : CallP Tryz.prog w0 30 [eSub x] (.slc 1 (aBytes (acksB x)) .no) := by
  refine CallP.x Ty.tok Ty.mixed Tryz.func30 rfl Tryz.ntmps30 rfl (by simp) (by decide +kernel) fun σ => ?_
  (conv => whnf); refine SBox.f ?_; (conv => whnf)
  refine SCall.c (by exact CallW.weak1 [] [_] (.nils 1 .full (.inr rfl)) (refnum2_room w0 [] .full _ (by simp) _ (.inl rfl))) (by exact Moves.full _) rfl fun tk1 σ1 hm => ?_
  (conv => whnf)
  have hn0 := num_len x.acks.length
  refine SLoop.by Ty.mixed (fun (a : Nat × Tok × List UInt8 × Int) => x.acks.length - a.1) (fun (i, tk, acc, la) => [(1, .vp (eSub x)), (3, .slc 1 (aBytes acc) tk), (4, .int .i64 la), (5, .int .i64 i)]) (fun _ => []) (fun (i, tk, acc, la) s => i ≤ x.acks.length ∧ acc.length ≤ 8 + 8 * i ∧ acksB x = acc ++ gapsB la (x.acks.drop i) ∧ Moves σ .full s tk) (0, tk1, num x.acks.length, x.floor) ⟨?_, BSub.none _, Nat.zero_le _, by omega, rfl, hm⟩ ?_
  · show xWeak [(1, .vp (eSub x)), (3, .slc 1 (aBytes (num x.acks.length)) tk1), (4, .int .i64 x.floor), (5, .int .i64 (0 : Nat))] _
    have e : num ((x.acks.map (AV.int .i64)).length : Nat) = num x.acks.length := by rw [List.length_map]
    rw [List.nil_append, e]
    repeat (first | exact trivial | refine ⟨by first | trivial | exact Weak.refl _ | exact Weak.tok _ _ _ | exact Weak.of_eq (congrArg (AV.int _) (by omega)) | exact Weak.of_eq (congrArg AV.bool (by fail)) | exact Weak.nils _ _ (.inr rfl), ?_⟩)
  clear hm; rintro ⟨i, tk, acc, la⟩ s ⟨hi, ha, hg, hm⟩; (conv => whnf)
  skip
  (refine SIf.x Ty.mixed (fun hc => ?_) (fun hc => ?_) <;> (conv => whnf))
  · have hlt : i < x.acks.length := by simp at hc; omega
    have ga : x.acks[i]? = some x.acks[i] := by simp [hlt]
    have hd := gapsB_drop ga la
    generalize x.acks[i] = n at ga hd
    have ga' := get_map (f := AV.int .i64) ga
    have hn := num_len (w64 (n - la))
    refine ⟨_, ⟨by first | omega | (simp only [List.length_cons, List.length_append, List.length_nil, List.length_map, length_aBytes, List.length_replicate, List.length_range]; omega) | fail, by exact ga'⟩, ?_⟩
    (conv => whnf); refine ⟨_, rfl, ?_⟩; (conv => whnf)
    refine SCall.c (by exact refnum2_room w0 _ _ _ (by omega) _ (Moves.room (by assumption))) (by assumption) rfl fun tk1 σ1 hm => ?_
    (conv => whnf)
    refine ⟨_, ⟨by first | omega | (simp only [List.length_cons, List.length_append, List.length_nil, List.length_map, length_aBytes, List.length_replicate, List.length_range]; omega) | fail, by exact ga'⟩, ?_⟩
    (conv => whnf); refine ⟨_, IntWalk.i64_in _ (by omega), ?_⟩; (conv => whnf)
    refine ⟨(i + 1, tk1, acc ++ num (w64 (n - la)), n), by show x.acks.length - (i + 1) < x.acks.length - i; omega, by repeat (first | exact trivial | refine ⟨by first | trivial | exact Weak.refl _ | exact Weak.tok _ _ _ | exact Weak.of_eq (congrArg (AV.int _) (by omega)) | exact Weak.of_eq (congrArg AV.bool (by fail)) | exact Weak.nils _ _ (.inr rfl), ?_⟩), BSub.none _, hlt, by simp; omega, by rw [hg, hd, List.append_assoc], hm⟩
  · have hge : i = x.acks.length := by simp at hc; omega
    subst hge
    rw [List.drop_length] at hg
    have hg : acksB x = acc := by rw [hg]; simp [gapsB]
    rw [hg]
    skip
    exact .v (by repeat (first | assumption | exact .refl _ | refine le_new2 ?_ (by assumption) | refine le_new ?_ (by assumption) | refine le_setBox ?_ (by first | assumption | exact none_in (by assumption) | exact none_in (none_in (by assumption)) | exact none_in (none_in (none_in (by assumption))) | fail) | exact Moves.le (by assumption) | refine .trans ?_ (Moves.le (by assumption)))) (.tok ..)
end Go.Proofs.YtkbmkhhcppfcnaaGreatDoor
end
section
set_option linter.unusedVariables false
set_option linter.unusedSimpArgs false
set_option maxRecDepth 100000
set_option maxHeartbeats 1000000
namespace Go.Proofs.YtkbmkhhcppfcnaaGreatDoor
open Go.Al Go.RowKit
theorem ack2_l (x : Sub) : (ack2 x).length ≤ 1 := by unfold ack2; split <;> simp
theorem note2_l (x : Sub) : (note2 x).length ≤ 1 := by unfold note2; split <;> simp
theorem x2_l (id : Int) : ∀ q : List Msg, (q.flatMap (x2 id)).length ≤ q.length
  | [] => by simp
  | m :: q => by
    have := x2_l id q
    have h : (x2 id m).length ≤ 1 := by unfold x2; split <;> simp
    rw [List.flatMap_cons]; simp only [List.length_append, List.length_cons]; omega
theorem flat_snoc2 {α β : Type} (f : α → List β) {l : List α} {i : Nat} {a : α} (h : l[i]? = some a) : (l.take (i + 1)).flatMap f = (l.take i).flatMap f ++ f a := by rw [take_snoc h, List.flatMap_append]; simp
theorem encR2_x (w0 : World) (hL : Laid w0) (x : Sub) (hx : Fits x) (σ : St) : CallW Tryz.prog w0 10 [eSub x] σ (fun r s => ∃ tk', r = .slc 2 ((enc2 x).map eRow) tk' ∧ Moves σ .full s tk') := by
  refine CallW.x Ty.tok Ty.mixed Tryz.func10 rfl Tryz.ntmps10 rfl (by simp) (by decide +kernel) (.nil σ) ?_
  obtain ⟨hs1, hs2, hs3, hs4⟩ := And.intro hx.name (And.intro hx.topic (And.intro hx.want hx.note))
  have hna := hx.nacks
  have hnq := hx.nqueue
  have hla := ack2_l x
  have hln := note2_l x
  (conv => whnf); refine SBox.f ?_; (conv => whnf)
  refine SIf.meet Ty.mixed (fun tk => [(1, .vp (eSub x)), (3, .slc 2 ((ack2 x).map eRow) tk)]) (fun _ => []) (fun tk s => Moves σ .full s tk) (fun hc => ?_) (fun hc => ?_) ?_
  · have hne : x.acks ≠ [] := by rintro e; rw [e] at hc; simp at hc
    have hm := Moves.full σ
    (conv => whnf); refine SReg.t 0 [32, 31] (by decide +kernel) ?_; (conv => whnf); refine SCall.p (by exact acksR2_p w0 x hna) ?_; (conv => whnf); refine SCall.p (by exact rowR2_any w0 hL 97 _ _ _ _) ?_; (conv => whnf)
    refine SApp.c rfl rfl (by assumption) (by simp only [length_aBytes, List.length_append, List.length_cons, List.length_nil, List.length_map, List.length_range]; omega) fun tk1 σ1 hm => ?_
    (conv => whnf); refine ⟨tk1, ?_, BSub.none _, hm⟩
    show xWeak [(1, .vp (eSub x)), (3, .slc 2 ((ack2 x).map eRow) tk1)] _
    rw [ack2, if_neg hne]
    repeat (first | exact trivial | refine ⟨by first | trivial | exact Weak.refl _ | exact Weak.tok _ _ _ | exact Weak.of_eq (congrArg (AV.int _) (by omega)) | exact Weak.of_eq (congrArg AV.bool (by fail)) | exact Weak.nils _ _ (.inr rfl), ?_⟩)
  · have hne : x.acks = [] := by
      cases h : x.acks with
      | nil => rfl
      | cons a l => rw [h] at hc; simp at hc
    (conv => whnf)
    skip
    refine ⟨.full, ?_, BSub.none _, .full σ⟩
    show xWeak [(1, .vp (eSub x)), (3, .slc 2 ((ack2 x).map eRow) .full)] _
    rw [ack2, if_pos hne]
    repeat (first | exact trivial | refine ⟨by first | trivial | exact Weak.refl _ | exact Weak.tok _ _ _ | exact Weak.of_eq (congrArg (AV.int _) (by omega)) | exact Weak.of_eq (congrArg AV.bool (by fail)) | exact Weak.nils _ _ (.inr rfl), ?_⟩)
  intro tk s hm
  have hl1 : (ack2 x).length ≤ 10 := by omega
  have hfin0 : enc2 x = ack2 x ++ x.queue.map (b2 x.id) ++ note2 x ++ x.queue.map (q2 x.id) ++ [s2 x] ++ x.queue.flatMap (x2 x.id) := rfl
  generalize ack2 x = A at hl1 hfin0 ⊢
  clear hla; (conv => whnf)
  skip
  refine SLoop.by Ty.mixed (fun (a : Nat × Tok) => x.queue.length - a.1) (fun (i, tk) => [(1, .vp (eSub x)), (3, .slc 2 ((A ++ (x.queue.take i).map (b2 x.id)).map eRow) tk), (4, .int .i64 i)]) (fun _ => []) (fun (i, tk) s => i ≤ x.queue.length ∧ Moves σ .full s tk) (0, tk) ⟨?_, BSub.none _, Nat.zero_le _, hm⟩ ?_
  · show xWeak [(1, .vp (eSub x)), (3, .slc 2 ((A ++ (x.queue.take 0).map (b2 x.id)).map eRow) tk), (4, .int .i64 (0 : Nat))] _
    rw [List.take_zero, List.map_nil, List.append_nil]
    repeat (first | exact trivial | refine ⟨by first | trivial | exact Weak.refl _ | exact Weak.tok _ _ _ | exact Weak.of_eq (congrArg (AV.int _) (by omega)) | exact Weak.of_eq (congrArg AV.bool (by fail)) | exact Weak.nils _ _ (.inr rfl), ?_⟩)
  clear hm; rintro ⟨i, tk⟩ s ⟨hi, hm⟩
  have htk := List.length_take_le i x.queue
  (conv => whnf)
  skip
  (refine SIf.x Ty.mixed (fun hc => ?_) (fun hc => ?_) <;> (conv => whnf))
  · have hlt : i < x.queue.length := by simp at hc; omega
    have ga : x.queue[i]? = some x.queue[i] := by simp [hlt]
    have hd := map_take_snoc (b2 x.id) ga
    obtain ⟨hb1, hb2⟩ := hx.queue _ (List.mem_of_getElem? ga)
    generalize x.queue[i] = m at ga hd hb1 hb2
    refine SReg.t 0 [32, 31] (by decide +kernel) ?_; (conv => whnf)
    refine ⟨_, ⟨by first | omega | (simp only [List.length_cons, List.length_append, List.length_nil, List.length_map, length_aBytes, List.length_replicate, List.length_range]; omega) | fail, by first | assumption | exact get_map (by assumption) | exact get_bytes (by assumption) | fail⟩, ?_⟩
    (conv => whnf)
    refine ⟨_, ⟨by first | omega | (simp only [List.length_cons, List.length_append, List.length_nil, List.length_map, length_aBytes, List.length_replicate, List.length_range]; omega) | fail, by first | assumption | exact get_map (by assumption) | exact get_bytes (by assumption) | fail⟩, ?_⟩
    (conv => whnf)
    refine SCall.c (by exact CallW.weak1 [] [_] (.nils 1 .full (.inr rfl)) (reftext2_room w0 [] .full _ (by simp) (by omega) _ (.inl rfl))) (by exact Moves.full _) rfl fun tk1 σ1 hm => ?_
    (conv => whnf); refine SCall.p (by exact rowR2_any w0 hL 98 _ _ _ _) ?_; (conv => whnf)
    refine SApp.c rfl rfl (by exact Moves.more (by assumption) (by assumption)) (by simp only [length_aBytes, List.length_append, List.length_cons, List.length_nil, List.length_map, List.length_range]; omega) fun tk1 σ1 hm => ?_
    (conv => whnf); refine ⟨_, IntWalk.i64_in _ (by omega), ?_⟩; (conv => whnf)
    refine ⟨(i + 1, tk1), by show x.queue.length - (i + 1) < x.queue.length - i; omega, ?_, BSub.none _, by omega, hm⟩
    show xWeak [(1, .vp (eSub x)), (3, .slc 2 ((A ++ (x.queue.take (i + 1)).map (b2 x.id)).map eRow) tk1), (4, .int .i64 (i + 1 : Nat))] _
    rw [hd, ← List.append_assoc, List.map_append (l₂ := [b2 x.id m])]
    repeat (first | exact trivial | refine ⟨by first | trivial | exact Weak.refl _ | exact Weak.tok _ _ _ | exact Weak.of_eq (congrArg (AV.int _) (by omega)) | exact Weak.of_eq (congrArg AV.bool (by fail)) | exact Weak.nils _ _ (.inr rfl), ?_⟩)
  have hge : i = x.queue.length := by simp at hc; omega
  subst hge
  rw [List.take_length]
  clear htk hc hi
  have hl2 : (A ++ x.queue.map (b2 x.id)).length ≤ 200000 := by simp; omega
  clear hl1
  generalize A ++ x.queue.map (b2 x.id) = B at hl2 hfin0 ⊢
  skip
  refine SIf.meet Ty.mixed (fun tk => [(1, .vp (eSub x)), (3, .slc 2 ((B ++ note2 x).map eRow) tk)]) (fun _ => []) (fun tk s => Moves σ .full s tk) (fun hc => ?_) (fun hc => ?_) ?_
  · have hne : x.note ≠ [] := by rintro e; simp [e] at hc
    (conv => whnf); refine SReg.t 0 [32, 31] (by decide +kernel) ?_; (conv => whnf)
    refine SCall.c (by exact CallW.weak1 [] [_] (.nils 1 .full (.inr rfl)) (reftext2_room w0 [] .full _ (by simp) (by omega) _ (.inl rfl))) (by exact Moves.full _) rfl fun tk1 σ1 hm => ?_
    (conv => whnf); refine SCall.p (by exact rowR2_any w0 hL 110 _ _ _ _) ?_; (conv => whnf)
    refine SApp.c rfl rfl (by exact Moves.more (by assumption) (by assumption)) (by simp only [length_aBytes, List.length_append, List.length_cons, List.length_nil, List.length_map, List.length_range]; omega) fun tk1 σ1 hm => ?_
    (conv => whnf); refine ⟨tk1, ?_, BSub.none _, hm⟩
    show xWeak [(1, .vp (eSub x)), (3, .slc 2 ((B ++ note2 x).map eRow) tk1)] _
    rw [note2, if_neg hne, List.map_append]
    repeat (first | exact trivial | refine ⟨by first | trivial | exact Weak.refl _ | exact Weak.tok _ _ _ | exact Weak.of_eq (congrArg (AV.int _) (by omega)) | exact Weak.of_eq (congrArg AV.bool (by fail)) | exact Weak.nils _ _ (.inr rfl), ?_⟩)
  · have hne : x.note = [] := by simpa using hc
    (conv => whnf)
    skip
    refine ⟨tk, ?_, BSub.none _, hm⟩
    show xWeak [(1, .vp (eSub x)), (3, .slc 2 ((B ++ note2 x).map eRow) tk)] _
    rw [note2, if_pos hne, List.append_nil]
    repeat (first | exact trivial | refine ⟨by first | trivial | exact Weak.refl _ | exact Weak.tok _ _ _ | exact Weak.of_eq (congrArg (AV.int _) (by omega)) | exact Weak.of_eq (congrArg AV.bool (by fail)) | exact Weak.nils _ _ (.inr rfl), ?_⟩)
  clear hm; intro tk s hm
  have hl3 : (B ++ note2 x).length ≤ 200001 := by simp; omega
  clear hl2 hln
  generalize B ++ note2 x = C at hl3 hfin0 ⊢
  (conv => whnf)
  skip
  refine SLoop.by Ty.mixed (fun (a : Nat × Tok) => x.queue.length - a.1) (fun (i, tk) => [(1, .vp (eSub x)), (3, .slc 2 ((C ++ (x.queue.take i).map (q2 x.id)).map eRow) tk), (5, .int .i64 i)]) (fun _ => []) (fun (i, tk) s => i ≤ x.queue.length ∧ Moves σ .full s tk) (0, tk) ⟨?_, BSub.none _, Nat.zero_le _, hm⟩ ?_
  · show xWeak [(1, .vp (eSub x)), (3, .slc 2 ((C ++ (x.queue.take 0).map (q2 x.id)).map eRow) tk), (5, .int .i64 (0 : Nat))] _
    rw [List.take_zero, List.map_nil, List.append_nil]
    repeat (first | exact trivial | refine ⟨by first | trivial | exact Weak.refl _ | exact Weak.tok _ _ _ | exact Weak.of_eq (congrArg (AV.int _) (by omega)) | exact Weak.of_eq (congrArg AV.bool (by fail)) | exact Weak.nils _ _ (.inr rfl), ?_⟩)
  clear hm; rintro ⟨i, tk⟩ s ⟨hi, hm⟩
  have htk := List.length_take_le i x.queue
  (conv => whnf)
  skip
  (refine SIf.x Ty.mixed (fun hc => ?_) (fun hc => ?_) <;> (conv => whnf))
  · have hlt : i < x.queue.length := by simp at hc; omega
    have ga : x.queue[i]? = some x.queue[i] := by simp [hlt]
    have hd := map_take_snoc (q2 x.id) ga
    obtain ⟨hb1, hb2⟩ := hx.queue _ (List.mem_of_getElem? ga)
    generalize x.queue[i] = m at ga hd hb1 hb2
    have hq : q2 x.id m = ⟨rkey 2 113 x.id m.seq, txt m.attr ++ num m.tries ++ num m.until_ ++ num (deadN m)⟩ := by simp [q2, qB2, List.append_assoc]
    rw [hq] at hd
    refine ⟨_, ⟨by first | omega | (simp only [List.length_cons, List.length_append, List.length_nil, List.length_map, length_aBytes, List.length_replicate, List.length_range]; omega) | fail, by first | assumption | exact get_map (by assumption) | exact get_bytes (by assumption) | fail⟩, ?_⟩
    (conv => whnf); intro b1 hb1; (conv => whnf); refine SStore.on 0 rfl ?_; (conv => whnf); refine SReg.fz 6 (by assumption) rfl rfl ?_; refine SReg.d [0, 1, 2, 3, 4, 5, 6, 8, 9, 11, 12, 14, 7, 10, 13, 15, 16, 17, 18, 19, 20] [0, 0, 0, 0, 0, 0, 0, 2, 0, 0, 2, 0, 0, 2, 0, 0, 2, 0, 0, 2, 0] (by decide +kernel) ?_; (conv => whnf); (conv => whnf)
    refine SCall.c (by exact CallW.weak1 [] [_] (.nils 1 .full (.inr rfl)) (reftext2_room w0 [] .full _ (by simp) (by omega) _ (.inl rfl))) (by exact Moves.full _) rfl fun tk1 σ1 hm => ?_
    (conv => whnf)
    refine SCall.c (by exact refnum2_room w0 _ _ _ (by exact Nat.le_trans (by exact bd_txt (by assumption)) (by omega)) _ (Moves.room (by assumption))) (by assumption) rfl fun tk1 σ1 hm => ?_
    (conv => whnf)
    refine SCall.c (by exact refnum2_room w0 _ _ _ (by exact Nat.le_trans (by apply bd_app; exact bd_txt (by assumption); exact bd_num _) (by omega)) _ (Moves.room (by assumption))) (by assumption) rfl fun tk1 σ1 hm => ?_
    (conv => whnf); refine SCall.p (by exact deadR2_any w0 _) ?_; (conv => whnf)
    refine SCall.c (by exact refnum2_room w0 _ _ _ (by exact Nat.le_trans (by apply bd_app; apply bd_app; exact bd_txt (by assumption); exact bd_num _; exact bd_num _) (by omega)) _ (Moves.room (by assumption))) (by assumption) rfl fun tk1 σ1 hm => ?_
    (conv => whnf); refine SCall.p (by exact rowR2_any w0 hL 113 _ _ _ _) ?_; (conv => whnf)
    refine SApp.c rfl rfl (by exact Moves.more (by assumption) (by assumption)) (by simp only [length_aBytes, List.length_append, List.length_cons, List.length_nil, List.length_map, List.length_range]; omega) fun tk1 σ1 hm => ?_
    (conv => whnf); refine ⟨_, IntWalk.i64_in _ (by omega), ?_⟩; (conv => whnf)
    refine ⟨(i + 1, tk1), by show x.queue.length - (i + 1) < x.queue.length - i; omega, ?_, BSub.none _, by omega, hm⟩
    show xWeak [(1, .vp (eSub x)), (3, .slc 2 ((C ++ (x.queue.take (i + 1)).map (q2 x.id)).map eRow) tk1), (5, .int .i64 (i + 1 : Nat))] _
    rw [hd, ← List.append_assoc, List.map_append (l₂ := [(⟨rkey 2 113 x.id m.seq, txt m.attr ++ num m.tries ++ num m.until_ ++ num (deadN m)⟩ : Row)])]
    repeat (first | exact trivial | refine ⟨by first | trivial | exact Weak.refl _ | exact Weak.tok _ _ _ | exact Weak.of_eq (congrArg (AV.int _) (by omega)) | exact Weak.of_eq (congrArg AV.bool (by fail)) | exact Weak.nils _ _ (.inr rfl), ?_⟩)
  have hge : i = x.queue.length := by simp at hc; omega
  subst hge
  rw [List.take_length]
  clear htk hc hi
  have hl4 : (C ++ x.queue.map (q2 x.id)).length ≤ 400001 := by simp; omega
  clear hl3
  generalize C ++ x.queue.map (q2 x.id) = D at hl4 hfin0 ⊢
  refine SReg.d [0, 1, 2, 3, 4, 6, 7, 9, 10, 12, 13, 15, 16, 18, 19, 5, 8, 11, 14, 17, 20, 21, 22, 23, 24] [0, 0, 0, 0, 0, 2, 0, 0, 2, 0, 0, 2, 0, 0, 2, 0, 0, 2, 0, 0, 2, 0, 0, 2, 0] (by decide +kernel) ?_; (conv => whnf); (conv => whnf)
  refine SCall.c (by exact CallW.weak1 [] [_] (.nils 1 .full (.inr rfl)) (reftext2_room w0 [] .full _ (by simp) (by omega) _ (.inl rfl))) (by exact Moves.full _) rfl fun tk1 σ1 hm => ?_
  (conv => whnf)
  refine SCall.c (by exact reftext2_room w0 _ _ _ (by exact Nat.le_trans (by exact bd_txt (by assumption)) (by omega)) (by omega) _ (Moves.room (by assumption))) (by assumption) rfl fun tk1 σ1 hm => ?_
  (conv => whnf)
  refine SCall.c (by exact reftext2_room w0 _ _ _ (by exact Nat.le_trans (by apply bd_app; exact bd_txt (by assumption); exact bd_txt (by assumption)) (by omega)) (by omega) _ (Moves.room (by assumption))) (by assumption) rfl fun tk1 σ1 hm => ?_
  (conv => whnf)
  refine SCall.c (by exact refnum2_room w0 _ _ _ (by exact Nat.le_trans (by apply bd_app; apply bd_app; exact bd_txt (by assumption); exact bd_txt (by assumption); exact bd_txt (by assumption)) (by omega)) _ (Moves.room (by assumption))) (by assumption) rfl fun tk1 σ1 hm => ?_
  (conv => whnf)
  refine SCall.c (by exact refnum2_room w0 _ _ _ (by exact Nat.le_trans (by apply bd_app; apply bd_app; apply bd_app; exact bd_txt (by assumption); exact bd_txt (by assumption); exact bd_txt (by assumption); exact bd_num _) (by omega)) _ (Moves.room (by assumption))) (by assumption) rfl fun tk1 σ1 hm => ?_
  (conv => whnf)
  refine SCall.c (by exact refnum2_room w0 _ _ _ (by exact Nat.le_trans (by apply bd_app; apply bd_app; apply bd_app; apply bd_app; exact bd_txt (by assumption); exact bd_txt (by assumption); exact bd_txt (by assumption); exact bd_num _; exact bd_num _) (by omega)) _ (Moves.room (by assumption))) (by assumption) rfl fun tk1 σ1 hm => ?_
  (conv => whnf); refine SCall.p (by exact rowR2_any w0 hL 115 _ _ _ _) ?_; (conv => whnf)
  refine SApp.c rfl rfl (by exact Moves.more (by assumption) (by assumption)) (by simp only [length_aBytes, List.length_append, List.length_cons, List.length_nil, List.length_map, List.length_range]; omega) fun tk1 σ1 hm => ?_
  (conv => whnf)
  have hs : s2 x = ⟨rkey 2 115 x.id 0, txt x.name ++ txt x.topic ++ txt x.want ++ num x.lease ++ num x.most ++ num x.floor⟩ := by simp [s2, sB2, List.append_assoc]
  have e2 : List.map eRow D ++ [eRow (⟨rkey 2 115 x.id 0, txt x.name ++ txt x.topic ++ txt x.want ++ num x.lease ++ num x.most ++ num x.floor⟩ : Row)] = List.map eRow (D ++ [s2 x]) := by rw [hs, List.map_append]; rfl
  have hl5 : (D ++ [s2 x]).length ≤ 400002 := by simp; omega
  clear hl4 hs
  generalize D ++ [s2 x] = F at hl5 hfin0 e2
  refine SLoop.by Ty.mixed (fun (a : Nat × Tok) => x.queue.length - a.1) (fun (i, tk) => [(1, .vp (eSub x)), (3, .slc 2 ((F ++ (x.queue.take i).flatMap (x2 x.id)).map eRow) tk), (7, .int .i64 i)]) (fun _ => []) (fun (i, tk) s => i ≤ x.queue.length ∧ Moves σ .full s tk) (0, tk1) ⟨?_, BSub.none _, Nat.zero_le _, hm⟩ ?_
  · show xWeak [(1, .vp (eSub x)), (3, .slc 2 ((F ++ (x.queue.take 0).flatMap (x2 x.id)).map eRow) tk1), (7, .int .i64 (0 : Nat))] _
    rw [List.take_zero, List.flatMap_nil, List.append_nil, ← e2]
    repeat (first | exact trivial | refine ⟨by first | trivial | exact Weak.refl _ | exact Weak.tok _ _ _ | exact Weak.of_eq (congrArg (AV.int _) (by omega)) | exact Weak.of_eq (congrArg AV.bool (by fail)) | exact Weak.nils _ _ (.inr rfl), ?_⟩)
  clear hm e2; rintro ⟨i, tk⟩ s ⟨hi, hm⟩
  have htk := List.length_take_le i x.queue
  have hxs := x2_l x.id (x.queue.take i)
  (conv => whnf)
  skip
  (refine SIf.x Ty.mixed (fun hc => ?_) (fun hc => ?_) <;> (conv => whnf))
  · have hlt : i < x.queue.length := by simp at hc; omega
    have ga : x.queue[i]? = some x.queue[i] := by simp [hlt]
    have hd := flat_snoc2 (x2 x.id) ga
    generalize x.queue[i] = m at ga hd
    have hif : x2 x.id m = if m.prio ≠ 0 ∨ m.dead = true then [⟨rkey 2 120 x.id m.seq, xB m⟩] else [] := rfl
    refine ⟨_, ⟨by first | omega | (simp only [List.length_cons, List.length_append, List.length_nil, List.length_map, length_aBytes, List.length_replicate, List.length_range]; omega) | fail, by first | assumption | exact get_map (by assumption) | exact get_bytes (by assumption) | fail⟩, ?_⟩
    (conv => whnf); intro b1 hb1; (conv => whnf); refine SStore.on 0 rfl ?_; (conv => whnf); refine SLoad.on 0 rfl ?_; (conv => whnf); refine SCond.mk (fun hg => ?_) (fun hg => ?_)
    · have hP : m.prio ≠ 0 ∨ m.dead = true := .inl (by simpa using hg)
      (conv => whnf); refine SCond.y (by assumption) ?_; (conv => whnf); refine SPick.y (by assumption) ?_; (conv => whnf); refine SIf.y Ty.mixed (by exact rfl) ?_; (conv => whnf); refine SReg.fz 8 (by assumption) rfl rfl ?_; refine SReg.d [0, 1, 2, 3, 4, 5, 6, 8, 7, 9, 10, 11, 12, 13, 14] [0, 0, 0, 0, 0, 0, 0, 2, 0, 0, 2, 0, 0, 2, 0] (by decide +kernel) ?_; (conv => whnf); (conv => whnf)
      refine SCall.c (by exact CallW.weak1 [] [_] (.nils 1 .full (.inr rfl)) (refnum2_room w0 [] .full _ (by simp) _ (.inl rfl))) (by exact Moves.full _) rfl fun tk1 σ1 hm => ?_
      (conv => whnf); refine SCall.p (by exact deathR2_any w0 _) ?_; (conv => whnf)
      refine SCall.c (by exact refnum2_room w0 _ _ _ (by exact Nat.le_trans (by exact bd_num _) (by omega)) _ (Moves.room (by assumption))) (by assumption) rfl fun tk1 σ1 hm => ?_
      (conv => whnf); refine SCall.p (by exact rowR2_any w0 hL 120 _ _ _ _) ?_; (conv => whnf)
      refine SApp.c rfl rfl (by exact Moves.more (by assumption) (by assumption)) (by simp only [length_aBytes, List.length_append, List.length_cons, List.length_nil, List.length_map, List.length_range]; omega) fun tk1 σ1 hm => ?_
      (conv => whnf); refine ⟨_, IntWalk.i64_in _ (by omega), ?_⟩; (conv => whnf)
      refine ⟨(i + 1, tk1), by show x.queue.length - (i + 1) < x.queue.length - i; omega, ?_, BSub.none _, by omega, hm⟩
      show xWeak [(1, .vp (eSub x)), (3, .slc 2 ((F ++ (x.queue.take (i + 1)).flatMap (x2 x.id)).map eRow) tk1), (7, .int .i64 (i + 1 : Nat))] _
      rw [hd, hif, if_pos hP, ← List.append_assoc, List.map_append (l₂ := [(⟨rkey 2 120 x.id m.seq, xB m⟩ : Row)])]
      repeat (first | exact trivial | refine ⟨by first | trivial | exact Weak.refl _ | exact Weak.tok _ _ _ | exact Weak.of_eq (congrArg (AV.int _) (by omega)) | exact Weak.of_eq (congrArg AV.bool (by fail)) | exact Weak.nils _ _ (.inr rfl), ?_⟩)
    · (conv => whnf)
      refine SCond.n (by assumption) ?_; (conv => whnf); refine SLoad.on 0 rfl ?_; (conv => whnf); refine SPick.n (by assumption) ?_; (conv => whnf)
      (refine SIf.x Ty.mixed (fun hc => ?_) (fun hc => ?_) <;> (conv => whnf))
      · have hP : m.prio ≠ 0 ∨ m.dead = true := .inr hc
        skip
        refine SReg.fz 8 (by assumption) rfl rfl ?_; refine SReg.d [0, 1, 2, 3, 4, 5, 6, 8, 7, 9, 10, 11, 12, 13, 14] [0, 0, 0, 0, 0, 0, 0, 2, 0, 0, 2, 0, 0, 2, 0] (by decide +kernel) ?_; (conv => whnf); (conv => whnf)
        refine SCall.c (by exact CallW.weak1 [] [_] (.nils 1 .full (.inr rfl)) (refnum2_room w0 [] .full _ (by simp) _ (.inl rfl))) (by exact Moves.full _) rfl fun tk1 σ1 hm => ?_
        (conv => whnf); refine SCall.p (by exact deathR2_any w0 _) ?_; (conv => whnf)
        refine SCall.c (by exact refnum2_room w0 _ _ _ (by exact Nat.le_trans (by exact bd_num _) (by omega)) _ (Moves.room (by assumption))) (by assumption) rfl fun tk1 σ1 hm => ?_
        (conv => whnf); refine SCall.p (by exact rowR2_any w0 hL 120 _ _ _ _) ?_; (conv => whnf)
        refine SApp.c rfl rfl (by exact Moves.more (by assumption) (by assumption)) (by simp only [length_aBytes, List.length_append, List.length_cons, List.length_nil, List.length_map, List.length_range]; omega) fun tk1 σ1 hm => ?_
        (conv => whnf); refine ⟨_, IntWalk.i64_in _ (by omega), ?_⟩; (conv => whnf)
        refine ⟨(i + 1, tk1), by show x.queue.length - (i + 1) < x.queue.length - i; omega, ?_, BSub.none _, by omega, hm⟩
        show xWeak [(1, .vp (eSub x)), (3, .slc 2 ((F ++ (x.queue.take (i + 1)).flatMap (x2 x.id)).map eRow) tk1), (7, .int .i64 (i + 1 : Nat))] _
        rw [hd, hif, if_pos hP, ← List.append_assoc, List.map_append (l₂ := [(⟨rkey 2 120 x.id m.seq, xB m⟩ : Row)])]
        repeat (first | exact trivial | refine ⟨by first | trivial | exact Weak.refl _ | exact Weak.tok _ _ _ | exact Weak.of_eq (congrArg (AV.int _) (by omega)) | exact Weak.of_eq (congrArg AV.bool (by fail)) | exact Weak.nils _ _ (.inr rfl), ?_⟩)
      · have hP : ¬ (m.prio ≠ 0 ∨ m.dead = true) := by simp_all
        refine ⟨_, IntWalk.i64_in _ (by omega), ?_⟩; (conv => whnf)
        refine ⟨(i + 1, tk), by show x.queue.length - (i + 1) < x.queue.length - i; omega, ?_, BSub.none _, by omega, hm.new2 (by assumption)⟩
        show xWeak [(1, .vp (eSub x)), (3, .slc 2 ((F ++ (x.queue.take (i + 1)).flatMap (x2 x.id)).map eRow) tk), (7, .int .i64 (i + 1 : Nat))] _
        rw [hd, hif, if_neg hP, List.append_nil]
        repeat (first | exact trivial | refine ⟨by first | trivial | exact Weak.refl _ | exact Weak.tok _ _ _ | exact Weak.of_eq (congrArg (AV.int _) (by omega)) | exact Weak.of_eq (congrArg AV.bool (by fail)) | exact Weak.nils _ _ (.inr rfl), ?_⟩)
  have hge : i = x.queue.length := by simp at hc; omega
  subst hge
  rw [List.take_length]
  skip
  rw [hfin0]
  exact .w ⟨tk, rfl, hm⟩
end Go.Proofs.YtkbmkhhcppfcnaaGreatDoor
end
section
set_option linter.unusedVariables false
set_option linter.unusedSimpArgs false
set_option maxHeartbeats 400000
namespace Go.Proofs.YtkbmkhhcppfcnaaGreatDoor
open Go.Al Go.RowKit
theorem row_ext {x y : Row} (h : x.key = y.key) (k : x.val = y.val) : x = y := by cases x; cases y; simp_all
theorem take_succ_iff {α : Type} {a b : List α} {i : Nat} (h : i < a.length) (k : i < b.length) (e : a.take i = b.take i) : a.take (i + 1) = b.take (i + 1) ↔ a[i] = b[i] := by
  rw [List.take_succ_eq_append_getElem h, List.take_succ_eq_append_getElem k, e]
  exact ⟨fun h => by simpa using List.append_cancel_left h, fun h => by rw [h]⟩
set_option maxRecDepth 100000 in
theorem sameRows_any (w0 : World) (a b : List Row) (ha : a.length ≤ 1000000000) : CallP Tryz.prog w0 8 [eRows a, eRows b] (.bool (decide (a = b))) := by
  refine CallP.start Tryz.func8 rfl Tryz.ntmps8 (by simp) fun σ Q hQ => ?_
  refine W.seq ?_; refine W.regionL (by decide +kernel) rfl ?_; apply r_op; exact rfl; exact rfl; apply a_assign; (conv => (lhs; whnf)); (with_reducible refine runs_done ?_); refine W.seq ?_; refine W.seq ?_; refine W.regionL (by decide +kernel) rfl ?_; apply r_op; exact rfl; exact rfl; apply a_move; (conv => (lhs; whnf)); apply r_op; exact rfl; exact rfl; apply g_call; exact a_len_slc rfl
  apply r_op; exact rfl; exact rfl; apply a_move; (conv => (lhs; whnf)); apply r_op; exact rfl; exact rfl; apply g_call; exact a_len_slc rfl; apply r_op; exact rfl; exact rfl; apply g_binOp; exact a_binI rfl rfl rfl; (with_reducible refine runs_done ?_); refine W.cond rfl (fun hc => ?_) (fun hc => ?_); refine W.seq ?_; refine W.regionL (by decide +kernel) rfl ?_; apply r_op; exact rfl; exact rfl
  apply a_assign; (conv => (lhs; whnf)); (with_reducible refine runs_done ?_); refine W.ret ?_; show Q Exit.ret _ _; refine post_q hQ (by apply res_tmp; exact rfl; exact res_nil) (.inl rfl) (by exact .refl _) ?_; (conv => (lhs; whnf)); rotate_left; refine W.skip ?_; show W _ _ _ _ _ _ _; refine W.seq ?_; refine W.seq ?_; refine W.regionL (by decide +kernel) rfl ?_; apply r_op; exact rfl; exact rfl
  apply a_assign; (conv => (lhs; whnf)); (with_reducible refine runs_done ?_); refine W.block ?_; rotate_left
  · have : ¬ a = b := by rintro rfl; simp at hc
    simp [this]
  · have hlen : a.length = b.length := by simp at hc; omega
    clear hc
    refine W.loop (fun k E s => ∃ i : Nat, i ≤ a.length ∧ k = a.length - i ∧ s = σ ∧ a.take i = b.take i ∧ Has [(0, eRows a), (1, eRows b), (5, .int .i64 i)] E) a.length ⟨0, Nat.zero_le _, rfl, rfl, by simp, by exact Has.by (by repeat (first | exact trivial | refine ⟨by first | trivial | exact Weak.refl _ | exact Weak.tok _ _ _ | exact Weak.of_eq (congrArg (AV.int _) (by omega)) | exact Weak.nils _ _ (.inr rfl), ?_⟩))⟩ ?_
    rintro k E s ⟨i, hi, rfl, rfl, htk, hE⟩; refine W.has hE ?_; clear hE; refine W.seq ?_; refine W.seq ?_; refine W.regionL (by decide +kernel) rfl ?_; apply r_op; exact rfl; exact rfl; apply a_move; (conv => (lhs; whnf)); apply r_op; exact rfl; exact rfl; apply a_move; (conv => (lhs; whnf)); apply r_op; exact rfl; exact rfl; apply g_call; exact a_len_slc rfl; apply r_op; exact rfl; exact rfl
    apply g_binOp; exact a_binI rfl rfl rfl; (with_reducible refine runs_done ?_); refine W.cond rfl (fun hc => ?_) (fun hc => ?_)
    · have hlt : i < a.length := by simp at hc; omega
      have ga : a[i]? = some a[i] := by simp [hlt]
      have gb : b[i]? = some (b[i]'(by omega)) := List.getElem?_eq_getElem (by omega)
      have ht := take_succ_iff hlt (show i < b.length by omega) htk
      generalize a[i] = x at ga ht
      generalize b[i]'(by omega) = y at gb ht
      refine W.skip ?_; show W _ _ _ _ _ _ _; refine W.seq ?_; refine W.block ?_; refine W.seq ?_; refine W.regionDK 1 [] Ty.mixed (by decide +kernel) (by decide +kernel) rfl ?_; apply r_op; exact rfl; exact rfl; apply a_move; (conv => (lhs; whnf)); apply r_op; exact rfl; exact rfl; apply a_move; (conv => (lhs; whnf)); apply r_op; exact rfl; exact rfl; apply g_indexAddr
      exact a_indexAddr rfl rfl (by decide) (by omega) (by exact get_map (by assumption)); apply r_op; exact rfl; exact rfl; apply g_fieldAddr; exact a_fieldAddr1 rfl (by decide) rfl; apply r_op; exact rfl; exact rfl; apply g_load; exact a_load1 rfl rfl; apply r_op; exact rfl; exact rfl; apply a_move; (conv => (lhs; whnf)); apply r_op; exact rfl; exact rfl; apply a_move; (conv => (lhs; whnf))
      apply r_op; exact rfl; exact rfl; apply g_indexAddr; exact a_indexAddr rfl rfl (by decide) (by omega) (by exact get_map (by assumption)); apply r_op; exact rfl; exact rfl; apply g_fieldAddr; exact a_fieldAddr1 rfl (by decide) rfl; apply r_op; exact rfl; exact rfl; apply g_load; exact a_load1 rfl rfl; apply r_op; exact rfl; exact rfl; apply g_binOp; exact a_binS rfl rfl rfl rfl; apply r_op
      exact rfl; exact rfl; apply a_move; (conv => (lhs; whnf)); refine q_split rfl rfl rfl (fun hg => ?_) (fun hg => ?_); apply q_skip; exact rfl; exact want_f rfl rfl rfl (by assumption); apply q_skip; exact rfl; exact want_f rfl rfl rfl (by assumption); apply q_skip; exact rfl; exact want_f rfl rfl rfl (by assumption); apply q_skip; exact rfl; exact want_f rfl rfl rfl (by assumption)
      apply q_skip; exact rfl; exact want_f rfl rfl rfl (by assumption); apply q_skip; exact rfl; exact want_f rfl rfl rfl (by assumption); apply q_skip; exact rfl; exact want_f rfl rfl rfl (by assumption); apply q_skip; exact rfl; exact want_f rfl rfl rfl (by assumption); apply q_skip; exact rfl; exact want_f rfl rfl rfl (by assumption); apply q_skip; exact rfl
      exact want_f rfl rfl rfl (by assumption); apply q_skip; exact rfl; exact want_f rfl rfl rfl (by assumption); apply q_skip; exact rfl; exact want_f rfl rfl rfl (by assumption); apply q_skip; exact rfl; exact want_f rfl rfl rfl (by assumption); apply r_op; exact rfl; exact rfl; apply g_pick; apply a_pickT rfl (by assumption); (conv => (lhs; whnf)); (with_reducible refine runs_done ?_)
      refine W.condT rfl (by exact rfl) ?_; refine W.seq ?_; refine W.regionL (by decide +kernel) rfl ?_; apply r_op; exact rfl; exact rfl; apply a_assign; (conv => (lhs; whnf)); (with_reducible refine runs_done ?_); refine W.ret ?_; show Q Exit.ret _ _; refine post_q hQ (by apply res_tmp; exact rfl; exact res_nil) (.inl rfl) (by exact .refl _) ?_; (conv => (lhs; whnf)); rotate_left; apply r_op
      exact rfl; exact want_t rfl rfl rfl (by assumption); apply a_move; (conv => (lhs; whnf)); apply r_op; exact rfl; exact want_t rfl rfl rfl (by assumption); apply a_move; (conv => (lhs; whnf)); apply r_op; exact rfl; exact want_t rfl rfl rfl (by assumption); apply g_indexAddr; exact a_indexAddr rfl rfl (by decide) (by omega) (by exact get_map (by assumption)); apply r_op; exact rfl
      exact want_t rfl rfl rfl (by assumption); apply g_fieldAddr; exact a_fieldAddr1 rfl (by decide) rfl; apply r_op; exact rfl; exact want_t rfl rfl rfl (by assumption); apply g_load; exact a_load1 rfl rfl; apply r_op; exact rfl; exact want_t rfl rfl rfl (by assumption); apply g_convert; exact a_bytesStr rfl; apply r_op; exact rfl; exact want_t rfl rfl rfl (by assumption); apply a_move
      (conv => (lhs; whnf)); apply r_op; exact rfl; exact want_t rfl rfl rfl (by assumption); apply a_move; (conv => (lhs; whnf)); apply r_op; exact rfl; exact want_t rfl rfl rfl (by assumption); apply g_indexAddr; exact a_indexAddr rfl rfl (by decide) (by omega) (by exact get_map (by assumption)); apply r_op; exact rfl; exact want_t rfl rfl rfl (by assumption); apply g_fieldAddr
      exact a_fieldAddr1 rfl (by decide) rfl; apply r_op; exact rfl; exact want_t rfl rfl rfl (by assumption); apply g_load; exact a_load1 rfl rfl; apply r_op; exact rfl; exact want_t rfl rfl rfl (by assumption); apply g_convert; exact a_bytesStr rfl; apply r_op; exact rfl; exact want_t rfl rfl rfl (by assumption); apply g_binOp; exact a_binS rfl rfl rfl rfl; apply r_op; exact rfl; exact rfl
      apply g_pick; apply a_pickF rfl (by assumption); (conv => (lhs; whnf)); (with_reducible refine runs_done ?_); refine W.cond rfl (fun hc => ?_) (fun hc => ?_); refine W.seq ?_; refine W.regionL (by decide +kernel) rfl ?_; apply r_op; exact rfl; exact rfl; apply a_assign; (conv => (lhs; whnf)); (with_reducible refine runs_done ?_); refine W.ret ?_; show Q Exit.ret _ _
      refine post_q hQ (by apply res_tmp; exact rfl; exact res_nil) (.inl rfl) (by exact .refl _) ?_; (conv => (lhs; whnf)); rotate_left; refine W.skip ?_; show W _ _ _ _ _ _ _; refine W.regionL (by decide +kernel) rfl ?_; apply r_op; exact rfl; exact rfl; apply a_move; (conv => (lhs; whnf)); apply r_op; exact rfl; exact rfl; apply g_binOp; exact a_add64 rfl rfl (by omega); apply r_op; exact rfl
      exact rfl; apply a_assign; (conv => (lhs; whnf)); (with_reducible refine runs_done ?_); rotate_left
      · have : ¬ a = b := fun e => by subst e; rw [ga] at gb; cases gb; simp at hg
        simp [this]
      · have : ¬ a = b := fun e => by subst e; rw [ga] at gb; cases gb; simp at hc
        simp [this]
      · have h1 : x.key = y.key := by simpa using hg
        have h2 : x.val = y.val := by simpa using hc
        exact ⟨a.length - (i + 1), by omega, i + 1, by omega, rfl, rfl, ht.2 (row_ext h1 h2), by exact Has.by (by repeat (first | exact trivial | refine ⟨by first | trivial | exact Weak.refl _ | exact Weak.tok _ _ _ | exact Weak.of_eq (congrArg (AV.int _) (by omega)) | exact Weak.nils _ _ (.inr rfl), ?_⟩))⟩
    · have hge : i = a.length := by simp at hc; omega
      refine W.exit ?_; show W _ _ _ _ _ _ _; refine W.seq ?_; refine W.regionL (by decide +kernel) rfl ?_; apply r_op; exact rfl; exact rfl; apply a_assign; (conv => (lhs; whnf)); (with_reducible refine runs_done ?_); refine W.ret ?_; show Q Exit.ret _ _; refine post_q hQ (by apply res_tmp; exact rfl; exact res_nil) (.inl rfl) (by exact .refl _) ?_; (conv => (lhs; whnf))
      have : a = b := by rw [hge, List.take_length, hlen, List.take_length] at htk; exact htk
      simp [this]
end Go.Proofs.YtkbmkhhcppfcnaaGreatDoor
end
section
set_option linter.unusedVariables false
set_option linter.unusedSimpArgs false
set_option maxRecDepth 100000
set_option maxHeartbeats 1000000
namespace Go.Proofs.YtkbmkhhcppfcnaaGreatDoor
open Go.Al Go.RowKit
theorem sub48 {c : UInt8} (h : 48 ≤ c.toNat ∧ c.toNat ≤ 57) : IntKind.i64.wrap (((Al.byteOf ((c.toNat : Int) - 48)).toNat : Nat) : Int) = ((c.toNat - 48 : Nat) : Int) := by
  have e : ((c.toNat : Int) - 48) = ((c.toNat - 48 : Nat) : Int) := by omega
  rw [e, byteOf_toNat _ (by omega), IntWalk.i64_in _ (by omega)]
theorem parts_any (w0 : World) (l : List UInt8) (c0 t : UInt8) (id seq : Nat) (hl : l.length = 22) (g0 : l[(0 : Int).toNat]? = some c0) (g1 : l[(1 : Int).toNat]? = some t) (hc0 : 48 ≤ c0.toNat ∧ c0.toNat ≤ 57) (ht : 97 ≤ t.toNat ∧ t.toNat ≤ 122)
    (hA1 : CallP Tryz.prog w0 73 [.str ((l.take (12 : Int).toNat).drop (2 : Int).toNat)] (.tup [.int .i64 id, .nilifc])) (hA2 : CallP Tryz.prog w0 73 [.str ((l.take ((l.length : Nat) : Int).toNat).drop (12 : Int).toNat)] (.tup [.int .i64 seq, .nilifc]))
    (hK : CallP Tryz.prog w0 20 [.int .i64 (IntKind.i64.wrap (((Al.byteOf ((c0.toNat : Int) - 48)).toNat : Nat) : Int)), .int .u8 t.toNat, .int .i64 id, .int .i64 seq] (.str l)) :
    CallP Tryz.prog w0 43 [.str l] (.tup [.int .i64 (c0.toNat - 48 : Nat), .int .u8 t.toNat, .int .i64 id, .int .i64 seq, .bool true]) := by
  refine CallP.start Tryz.func43 rfl Tryz.ntmps43 (by simp) fun σ Q hQ => ?_
  have d0 : (!decide (((l.length : Nat) : Int) = 22)) = false := by simp [hl]
  have d1 : decide ((c0.toNat : Int) < 48) = false := decide_eq_false (by omega)
  have d2 : decide ((57 : Int) < (c0.toNat : Int)) = false := decide_eq_false (by omega)
  have d3 : decide ((t.toNat : Int) < 97) = false := decide_eq_false (by omega)
  have d4 : decide ((122 : Int) < (t.toNat : Int)) = false := decide_eq_false (by omega)
  have d5 : (!decide (l = l)) = false := by simp
  refine W.seq ?_; refine W.regionL (by decide +kernel) rfl ?_; apply r_op; exact rfl; exact rfl; apply a_assign; (conv => (lhs; whnf)); apply r_op; exact rfl; exact rfl; apply a_assign; (conv => (lhs; whnf)); apply r_op; exact rfl; exact rfl; apply a_assign; (conv => (lhs; whnf)); apply r_op; exact rfl; exact rfl; apply a_assign; (conv => (lhs; whnf)); apply r_op; exact rfl; exact rfl
  apply a_assign; (conv => (lhs; whnf)); (with_reducible refine runs_done ?_); refine W.seq ?_; refine W.seq ?_; refine W.regionL (by decide +kernel) rfl ?_; apply r_op; exact rfl; exact rfl; apply a_move; (conv => (lhs; whnf)); apply r_op; exact rfl; exact rfl; apply g_call; exact a_len_str rfl; apply r_op; exact rfl; exact rfl; apply g_binOp; exact a_binI rfl rfl rfl; apply r_op; exact rfl
  exact rfl; apply a_move; (conv => (lhs; whnf)); apply r_op; exact rfl; exact want_t rfl rfl rfl (by assumption); apply a_move; (conv => (lhs; whnf)); apply r_op; exact rfl; exact want_t rfl rfl rfl (by assumption); apply g_index; exact a_indexS rfl rfl (by omega) (by assumption); apply r_op; exact rfl; exact want_t rfl rfl rfl (by assumption); apply g_binOp; exact a_binI rfl rfl rfl; apply r_op
  exact rfl; exact rfl; apply g_pick; apply a_pickF rfl (by assumption); (conv => (lhs; whnf)); apply r_op; exact rfl; exact rfl; apply a_move; (conv => (lhs; whnf)); apply r_op; exact rfl; exact want_t rfl rfl rfl (by assumption); apply a_move; (conv => (lhs; whnf)); apply r_op; exact rfl; exact want_t rfl rfl rfl (by assumption); apply g_index; exact a_indexS rfl rfl (by omega) (by assumption)
  apply r_op; exact rfl; exact want_t rfl rfl rfl (by assumption); apply g_binOp; exact a_binI rfl rfl rfl; apply r_op; exact rfl; exact rfl; apply g_pick; apply a_pickF rfl (by assumption); (conv => (lhs; whnf)); apply r_op; exact rfl; exact rfl; apply a_move; (conv => (lhs; whnf)); apply r_op; exact rfl; exact want_t rfl rfl rfl (by assumption); apply a_move; (conv => (lhs; whnf)); apply r_op
  exact rfl; exact want_t rfl rfl rfl (by assumption); apply g_index; exact a_indexS rfl rfl (by omega) (by assumption); apply r_op; exact rfl; exact want_t rfl rfl rfl (by assumption); apply g_binOp; exact a_binI rfl rfl rfl; apply r_op; exact rfl; exact rfl; apply g_pick; apply a_pickF rfl (by assumption); (conv => (lhs; whnf)); apply r_op; exact rfl; exact rfl; apply a_move
  (conv => (lhs; whnf)); apply r_op; exact rfl; exact want_t rfl rfl rfl (by assumption); apply a_move; (conv => (lhs; whnf)); apply r_op; exact rfl; exact want_t rfl rfl rfl (by assumption); apply g_index; exact a_indexS rfl rfl (by omega) (by assumption); apply r_op; exact rfl; exact want_t rfl rfl rfl (by assumption); apply g_binOp; exact a_binI rfl rfl rfl; apply r_op; exact rfl; exact rfl
  apply g_pick; apply a_pickF rfl (by assumption); (conv => (lhs; whnf)); (with_reducible refine runs_done ?_); refine W.condF rfl (by assumption) ?_; refine W.skip ?_; show W _ _ _ _ _ _ _; refine W.seq ?_; refine W.regionL (by decide +kernel) rfl ?_; apply r_op; exact rfl; exact rfl; apply a_move; (conv => (lhs; whnf)); apply r_op; exact rfl; exact rfl; apply g_index
  exact a_indexS rfl rfl (by omega) (by assumption); apply r_op; exact rfl; exact rfl; apply g_binOp; exact a_u8sub rfl rfl; apply r_op; exact rfl; exact rfl; apply g_convert; exact a_convI rfl; apply r_op; exact rfl; exact rfl; apply a_assign; (conv => (lhs; whnf)); (with_reducible refine runs_done ?_); refine W.seq ?_; refine W.regionL (by decide +kernel) rfl ?_; apply r_op; exact rfl; exact rfl
  apply a_move; (conv => (lhs; whnf)); apply r_op; exact rfl; exact rfl; apply g_slice; exact a_sliceS rfl rfl rfl (by omega); apply r_callP; exact rfl; exact rfl; exact rfl; exact rfl; exact rfl; infer_instance; exact hA1; apply r_op; exact rfl; exact rfl; apply a_move; (conv => (lhs; whnf)); apply r_op; exact rfl; exact rfl; apply g_extract; exact a_extract rfl rfl; apply r_op; exact rfl
  exact rfl; apply g_extract; exact a_extract rfl rfl; apply r_op; exact rfl; exact rfl; apply a_assign; (conv => (lhs; whnf)); apply r_op; exact rfl; exact rfl; apply a_assign; (conv => (lhs; whnf)); (with_reducible refine runs_done ?_); refine W.seq ?_; refine W.regionL (by decide +kernel) rfl ?_; apply r_op; exact rfl; exact rfl; apply a_move; (conv => (lhs; whnf)); apply r_op; exact rfl
  exact rfl; apply g_slice; exact a_sliceS rfl rfl rfl (by omega); apply r_callP; exact rfl; exact rfl; exact rfl; exact rfl; exact rfl; infer_instance; exact hA2; apply r_op; exact rfl; exact rfl; apply a_move; (conv => (lhs; whnf)); apply r_op; exact rfl; exact rfl; apply g_extract; exact a_extract rfl rfl; apply r_op; exact rfl; exact rfl; apply g_extract; exact a_extract rfl rfl; apply r_op
  exact rfl; exact rfl; apply a_assign; (conv => (lhs; whnf)); apply r_op; exact rfl; exact rfl; apply a_assign; (conv => (lhs; whnf)); (with_reducible refine runs_done ?_); refine W.seq ?_; refine W.seq ?_; refine W.regionL (by decide +kernel) rfl ?_; apply r_op; exact rfl; exact rfl; apply a_move; (conv => (lhs; whnf)); apply r_op; exact rfl; exact rfl; apply g_binOp
  exact a_nilI rfl rfl (by exact .inl rfl) rfl rfl rfl; apply r_op; exact rfl; exact rfl; apply a_move; (conv => (lhs; whnf)); apply r_op; exact rfl; exact rfl; apply a_move; (conv => (lhs; whnf)); apply r_op; exact rfl; exact rfl; apply g_binOp; exact a_nilI rfl rfl (by exact .inl rfl) rfl rfl rfl; apply r_op; exact rfl; exact rfl; apply g_pick; apply a_pickF rfl (by exact rfl)
  (conv => (lhs; whnf)); apply r_op; exact rfl; exact rfl; apply a_move; (conv => (lhs; whnf)); apply r_op; exact rfl; exact rfl; apply a_move; (conv => (lhs; whnf)); apply r_op; exact rfl; exact rfl; apply a_move; (conv => (lhs; whnf)); apply r_op; exact rfl; exact rfl; apply g_index; exact a_indexS rfl rfl (by omega) (by assumption); apply r_op; exact rfl; exact rfl; apply a_move
  (conv => (lhs; whnf)); apply r_op; exact rfl; exact rfl; apply a_move; (conv => (lhs; whnf)); apply r_callP; exact rfl; exact rfl; exact rfl; exact rfl; exact rfl; infer_instance; exact hK; apply r_op; exact rfl; exact rfl; apply a_move; (conv => (lhs; whnf)); apply r_op; exact rfl; exact rfl; apply g_binOp; exact a_binS rfl rfl rfl rfl; apply r_op; exact rfl; exact rfl; apply g_pick
  apply a_pickF rfl (by exact rfl); (conv => (lhs; whnf)); (with_reducible refine runs_done ?_); refine W.condF rfl (by assumption) ?_; refine W.skip ?_; show W _ _ _ _ _ _ _; refine W.seq ?_; refine W.regionDK 1 [] Ty.mixed (by decide +kernel) (by decide +kernel) rfl ?_; apply r_op; exact rfl; exact rfl; apply a_move; (conv => (lhs; whnf)); apply r_op; exact rfl; exact rfl; apply a_move
  (conv => (lhs; whnf)); apply r_op; exact rfl; exact rfl; apply g_index; exact a_indexS rfl rfl (by omega) (by assumption); apply r_op; exact rfl; exact rfl; apply a_move; (conv => (lhs; whnf)); apply r_op; exact rfl; exact rfl; apply a_move; (conv => (lhs; whnf)); apply r_op; exact rfl; exact rfl; apply a_assign; (conv => (lhs; whnf)); apply r_op; exact rfl; exact rfl; apply a_assign
  (conv => (lhs; whnf)); apply r_op; exact rfl; exact rfl; apply a_assign; (conv => (lhs; whnf)); apply r_op; exact rfl; exact rfl; apply a_assign; (conv => (lhs; whnf)); apply r_op; exact rfl; exact rfl; apply a_assign; (conv => (lhs; whnf)); (with_reducible refine runs_done ?_); refine W.ret ?_; show Q Exit.ret _ _
  refine post_q hQ (by apply res_tmp; exact rfl; apply res_tmp; exact rfl; apply res_tmp; exact rfl; apply res_tmp; exact rfl; apply res_tmp; exact rfl; exact res_nil) (.inl rfl) (by exact .refl _) ?_; (conv => (lhs; whnf))
  rw [← sub48 hc0]; rfl
theorem alike_any (w0 : World) (x y : Row) : CallP Tryz.prog w0 56 [eRow x, eRow y] (.bool (decide (x = y))) := by
  refine CallP.start Tryz.func56 rfl Tryz.ntmps56 (by simp) fun σ Q hQ => ?_
  refine W.seq ?_; refine W.regionL (by decide +kernel) rfl ?_; apply r_boxF; exact rfl; exact rfl; exact rfl; (conv => (lhs; whnf)); exact rfl; apply r_boxF; exact rfl; exact rfl; exact rfl; (conv => (lhs; whnf)); exact rfl; apply r_op; exact rfl; exact rfl; apply a_assign; (conv => (lhs; whnf)); (with_reducible refine runs_done ?_); refine W.seq ?_; refine W.regionL (by decide +kernel) rfl ?_
  apply r_op; exact rfl; exact rfl; apply g_fieldAddr; exact a_fieldAddr1 rfl (by decide) rfl; apply r_op; exact rfl; exact rfl; apply g_load; exact a_load1 rfl rfl; apply r_op; exact rfl; exact rfl; apply g_fieldAddr; exact a_fieldAddr1 rfl (by decide) rfl; apply r_op; exact rfl; exact rfl; apply g_load; exact a_load1 rfl rfl; apply r_op; exact rfl; exact rfl; apply g_binOp
  exact a_binS rfl rfl rfl rfl; apply r_op; exact rfl; exact rfl; apply a_move; (conv => (lhs; whnf)); refine q_split rfl rfl rfl (fun hg => ?_) (fun hg => ?_); apply r_op; exact rfl; exact want_t rfl rfl rfl (by assumption); apply g_fieldAddr; exact a_fieldAddr1 rfl (by decide) rfl; apply r_op; exact rfl; exact want_t rfl rfl rfl (by assumption); apply g_load; exact a_load1 rfl rfl; apply r_op
  exact rfl; exact want_t rfl rfl rfl (by assumption); apply g_convert; exact a_bytesStr rfl; apply r_op; exact rfl; exact want_t rfl rfl rfl (by assumption); apply g_fieldAddr; exact a_fieldAddr1 rfl (by decide) rfl; apply r_op; exact rfl; exact want_t rfl rfl rfl (by assumption); apply g_load; exact a_load1 rfl rfl; apply r_op; exact rfl; exact want_t rfl rfl rfl (by assumption); apply g_convert
  exact a_bytesStr rfl; apply r_op; exact rfl; exact want_t rfl rfl rfl (by assumption); apply g_binOp; exact a_binS rfl rfl rfl rfl; apply r_op; exact rfl; exact rfl; apply g_pick; apply a_pickT rfl (by assumption); (conv => (lhs; whnf)); apply r_op; exact rfl; exact rfl; apply a_assign; (conv => (lhs; whnf)); (with_reducible refine runs_done ?_); refine W.ret ?_; show Q Exit.ret _ _
  refine post_q hQ (by apply res_tmp; exact rfl; exact res_nil) (.inl rfl) (by exact .refl _) ?_; (conv => (lhs; whnf)); rotate_left; apply q_skip; exact rfl; exact want_f rfl rfl rfl (by assumption); apply q_skip; exact rfl; exact want_f rfl rfl rfl (by assumption); apply q_skip; exact rfl; exact want_f rfl rfl rfl (by assumption); apply q_skip; exact rfl; exact want_f rfl rfl rfl (by assumption)
  apply q_skip; exact rfl; exact want_f rfl rfl rfl (by assumption); apply q_skip; exact rfl; exact want_f rfl rfl rfl (by assumption); apply q_skip; exact rfl; exact want_f rfl rfl rfl (by assumption); apply r_op; exact rfl; exact rfl; apply g_pick; apply a_pickF rfl (by assumption); (conv => (lhs; whnf)); apply r_op; exact rfl; exact rfl; apply a_assign; (conv => (lhs; whnf))
  (with_reducible refine runs_done ?_); refine W.ret ?_; show Q Exit.ret _ _; refine post_q hQ (by apply res_tmp; exact rfl; exact res_nil) (.inl rfl) (by exact .refl _) ?_; (conv => (lhs; whnf)); rotate_left
  · have h1 : x.key = y.key := by simpa using ‹decide (x.key = y.key) = true›
    have : (x.val = y.val) ↔ x = y := ⟨fun h => row_ext h1 h, fun h => by rw [h]⟩
    simp only [this]
  · have : ¬ x = y := fun e => by subst e; simp at *
    simp [this]
theorem eqRows_any (w0 : World) (a b : List Row) (ta tb : Tok) (ha : a.length ≤ 1000000000) : CallP Tryz.prog w0 45 [.slc 2 (a.map eRow) ta, .slc 2 (b.map eRow) tb, .fn (.func 56) [] []] (.bool (decide (a = b))) := by
  refine CallP.start Tryz.func45 rfl Tryz.ntmps45 (by simp) fun σ Q hQ => ?_
  refine W.seq ?_; refine W.regionL (by decide +kernel) rfl ?_; apply r_op; exact rfl; exact rfl; apply a_assign; (conv => (lhs; whnf)); (with_reducible refine runs_done ?_); refine W.seq ?_; refine W.seq ?_; refine W.regionL (by decide +kernel) rfl ?_; apply r_op; exact rfl; exact rfl; apply a_move; (conv => (lhs; whnf)); apply r_op; exact rfl; exact rfl; apply g_call; exact a_len_slc rfl
  apply r_op; exact rfl; exact rfl; apply a_move; (conv => (lhs; whnf)); apply r_op; exact rfl; exact rfl; apply g_call; exact a_len_slc rfl; apply r_op; exact rfl; exact rfl; apply g_binOp; exact a_binI rfl rfl rfl; (with_reducible refine runs_done ?_); refine W.cond rfl (fun hc => ?_) (fun hc => ?_); refine W.seq ?_; refine W.regionL (by decide +kernel) rfl ?_; apply r_op; exact rfl; exact rfl
  apply a_assign; (conv => (lhs; whnf)); (with_reducible refine runs_done ?_); refine W.ret ?_; show Q Exit.ret _ _; refine post_q hQ (by apply res_tmp; exact rfl; exact res_nil) (.inl rfl) (by exact .refl _) ?_; (conv => (lhs; whnf)); rotate_left; refine W.skip ?_; show W _ _ _ _ _ _ _; refine W.seq ?_; refine W.seq ?_; refine W.regionL (by decide +kernel) rfl ?_; apply r_op; exact rfl; exact rfl
  apply a_move; (conv => (lhs; whnf)); apply r_op; exact rfl; exact rfl; apply g_call; exact a_len_slc rfl; apply r_op; exact rfl; exact rfl; apply a_move; (conv => (lhs; whnf)); (with_reducible refine runs_done ?_); refine W.block ?_; rotate_left
  · have : ¬ a = b := by rintro rfl; simp at hc
    simp [this]
  · have hlen : a.length = b.length := by simp at hc; omega
    clear hc
    refine W.loop (fun k E s => ∃ i : Nat, i ≤ a.length ∧ k = a.length - i ∧ St.Le σ s ∧ a.take i = b.take i ∧ Has [(1, .slc 2 (b.map eRow) .no), (2, .fn (.func 56) [] []), (15, .slc 2 (a.map eRow) .no), (16, .int .i64 a.length), (17, .int .i64 i)] E) a.length ⟨0, Nat.zero_le _, rfl, .refl _, by simp, ?_⟩ ?_
    · rw [List.length_map]
      exact Has.by (by repeat (first | exact trivial | refine ⟨by first | trivial | exact Weak.refl _ | exact Weak.tok _ _ _ | exact Weak.of_eq (congrArg (AV.int _) (by omega)) | exact Weak.nils _ _ (.inr rfl), ?_⟩))
    rintro k E s ⟨i, hi, rfl, hle, htk, hE⟩; refine W.weaken (fun t => .refl _) hle ?_; refine W.has hE ?_; clear hE hle; refine W.seq ?_; refine W.regionL (by decide +kernel) rfl ?_; apply r_op; exact rfl; exact rfl; apply g_binOp; exact a_binI rfl rfl rfl; (with_reducible refine runs_done ?_); refine W.seq ?_; refine W.cond rfl (fun hc => ?_) (fun hc => ?_)
    · have hlt : i < a.length := by simp at hc; omega
      have ga : a[i]? = some a[i] := by simp [hlt]
      have gb : b[i]? = some (b[i]'(by omega)) := List.getElem?_eq_getElem (by omega)
      have ht := take_succ_iff hlt (show i < b.length by omega) htk
      generalize a[i] = x at ga ht
      generalize b[i]'(by omega) = y at gb ht
      clear hc; refine W.skip ?_; show W _ _ _ _ _ _ _; refine W.seq ?_; refine W.block ?_; refine W.seq ?_; refine W.regionL (by decide +kernel) rfl ?_; apply r_op; exact rfl; exact rfl; apply a_move; (conv => (lhs; whnf)); apply r_op; exact rfl; exact rfl; apply g_indexAddr; exact a_indexAddr rfl rfl (by decide) (by omega) (by exact get_map (by assumption)); apply r_op; exact rfl; exact rfl
      apply g_load; exact a_loadA rfl (by rfl) rfl; apply r_alloc; exact rfl; exact rfl; decide; exact rfl; (conv => (lhs; whnf)); intro b1 hb1; apply r_op; exact rfl; exact rfl; apply a_assign; (conv => (lhs; whnf)); apply r_store; exact rfl; exact rfl; exact rfl; decide; infer_instance; exact rfl; exact setBox_same; (conv => (lhs; whnf)); exact rfl; (conv => (lhs; whnf)); exact rfl
      exact of_decide_eq_true rfl; exact setL_whole rfl; (with_reducible refine runs_done ?_); refine W.seq ?_; refine W.regionL (by decide +kernel) rfl ?_; apply r_op; exact rfl; exact rfl; apply a_move; (conv => (lhs; whnf)); apply r_op; exact rfl; exact rfl; apply a_move; (conv => (lhs; whnf)); apply r_op; exact rfl; exact rfl; apply g_indexAddr
      exact a_indexAddr rfl rfl (by decide) (by omega) (by exact get_map (by assumption)); apply r_op; exact rfl; exact rfl; apply g_load; exact a_loadA rfl (by rfl) rfl; apply r_alloc; exact rfl; exact rfl; decide; exact rfl; (conv => (lhs; whnf)); intro b1 hb1; apply r_store; exact rfl; exact rfl; exact rfl; decide; infer_instance; exact rfl; exact setBox_same; (conv => (lhs; whnf)); exact rfl
      (conv => (lhs; whnf)); exact rfl; exact of_decide_eq_true rfl; exact setL_whole rfl; (with_reducible refine runs_done ?_); refine W.seq ?_; refine W.regionL (by decide +kernel) rfl ?_; apply r_op; exact rfl; exact rfl; apply a_move; (conv => (lhs; whnf)); apply r_load; exact rfl; exact rfl; exact rfl; decide; exact rfl; apply hb_ne (by exact ne_none' (by assumption))
      apply hb_ne (by exact ne_none' (by assumption)); exact setBox_same; exact aLoadA rfl (by rfl) rfl; apply r_load; exact rfl; exact rfl; exact rfl; decide; exact rfl; exact setBox_same; exact aLoadA rfl (by rfl) rfl; apply r_callP; exact rfl; exact rfl; exact rfl; exact rfl; exact rfl; infer_instance; exact alike_any w0 _ _; apply r_op; exact rfl; exact rfl; apply g_unOp; exact a_not rfl
      (with_reducible refine runs_done ?_); refine W.cond rfl (fun hc => ?_) (fun hc => ?_); refine W.seq ?_; refine W.regionL (by decide +kernel) rfl ?_; apply r_op; exact rfl; exact rfl; apply a_assign; (conv => (lhs; whnf)); (with_reducible refine runs_done ?_); refine W.ret ?_; show Q Exit.ret _ _
      refine post_q hQ (by apply res_tmp; exact rfl; exact res_nil) (.inl rfl) (by refine le_setBox ?_ (by exact none_in (none_in (by assumption))); refine le_setBox ?_ (by exact none_in (none_in (by assumption))); refine le_setBox ?_ (by assumption); refine le_setBox ?_ (by assumption); exact .refl _) ?_
      (conv => (lhs; whnf)); rotate_left; refine W.skip ?_; show W _ _ _ _ _ _ _; refine W.regionL (by decide +kernel) rfl ?_; apply r_op; exact rfl; exact rfl; apply g_binOp; exact a_add64 rfl rfl (by omega); apply r_op; exact rfl; exact rfl; apply a_move; (conv => (lhs; whnf)); (with_reducible refine runs_done ?_); rotate_left
      · have : ¬ a = b := fun e => by subst e; rw [ga] at gb; cases gb; simp at hc
        simp [this]
      · have hxy : x = y := by simpa using hc
        exact ⟨a.length - (i + 1), by omega, i + 1, by omega, rfl, by repeat (first | assumption | exact .refl _ | refine le_setBox ?_ (by first | assumption | exact none_in (by assumption) | exact none_in (none_in (by assumption)) | exact none_in (none_in (none_in (by assumption))) | fail) | exact Moves.le (by assumption) | refine .trans ?_ (Moves.le (by assumption))), ht.2 hxy, by exact Has.by (by repeat (first | exact trivial | refine ⟨by first | trivial | exact Weak.refl _ | exact Weak.tok _ _ _ | exact Weak.of_eq (congrArg (AV.int _) (by omega)) | exact Weak.nils _ _ (.inr rfl), ?_⟩))⟩
    · have hge : i = a.length := by simp at hc; omega
      refine W.exit ?_; show W _ _ _ _ _ _ _; refine W.seq ?_; refine W.regionL (by decide +kernel) rfl ?_; apply r_op; exact rfl; exact rfl; apply a_assign; (conv => (lhs; whnf)); (with_reducible refine runs_done ?_); refine W.ret ?_; show Q Exit.ret _ _; refine post_q hQ (by apply res_tmp; exact rfl; exact res_nil) (.inl rfl) (by exact .refl _) ?_; (conv => (lhs; whnf))
      have : a = b := by rw [hge, List.take_length, hlen, List.take_length] at htk; exact htk
      simp [this]
end Go.Proofs.YtkbmkhhcppfcnaaGreatDoor
end
section
set_option linter.unusedVariables false
set_option linter.unusedSimpArgs false
set_option maxRecDepth 100000
set_option maxHeartbeats 1000000
namespace Go.Proofs.YtkbmkhhcppfcnaaGreatDoor
open Go.Al Go.RowKit
theorem flag2_any (w0 : World) (b : Bool) : CallP Tryz.prog w0 26 [.bool b] (.int .i64 (if b = true then 1 else 0)) := by
  refine CallP.x Ty.tok Ty.mixed Tryz.func26 rfl Tryz.ntmps26 rfl (by simp) (by decide +kernel) fun σ => ?_
  (conv => whnf)
  (refine SIf.x Ty.mixed (fun hc => ?_) (fun hc => ?_) <;> (conv => whnf))
  rotate_left; rotate_left
  all_goals exact .p (.refl _) (by simp [hc])
theorem deaths2_any (w0 : World) : CallP Tryz.prog w0 66 [] (.slc 1 [.str [], .str [110, 97, 99, 107], .str [116, 105, 109, 101]] .full) := by
  refine CallP.x Ty.tok Ty.mixed Tryz.func66 rfl Tryz.ntmps66 rfl (by simp) (by decide +kernel) fun σ => ?_
  (conv => whnf)
  skip
  exact .p (.refl _) rfl
theorem bytesEqX_any (w0 : World) (a b : List UInt8) (ta tb : Tok) : CallP Tryz.prog w0 74 [.slc 1 (aBytes a) ta, .slc 1 (aBytes b) tb] (.bool (decide (a = b))) := by
  refine CallP.x Ty.tok Ty.mixed Tryz.func74 rfl Tryz.ntmps74 rfl (by simp) (by decide +kernel) fun σ => ?_
  (conv => whnf); refine ⟨_, toBytes_aBytes _, ?_⟩; (conv => whnf); refine ⟨_, toBytes_aBytes _, ?_⟩; (conv => whnf); exact .p (.refl _) rfl
theorem same2_any (w0 : World) (x y : Row) : CallP Tryz.prog w0 52 [eRow x, eRow y] (.bool (decide (x = y))) := by
  refine CallP.x Ty.tok Ty.mixed Tryz.func52 rfl Tryz.ntmps52 rfl (by simp) (by decide +kernel) fun σ => ?_
  (conv => whnf); refine SBox.f ?_; (conv => whnf); refine SBox.f ?_; (conv => whnf)
  (refine SCond.mk (fun hc => ?_) (fun hc => ?_) <;> (conv => whnf))
  refine SCond.y (by assumption) ?_; (conv => whnf); refine SCond.y (by assumption) ?_; (conv => whnf); refine SCond.y (by assumption) ?_; (conv => whnf); refine SCond.y (by assumption) ?_; (conv => whnf); refine SCall.p (by exact bytesEqX_any w0 _ _ _ _) ?_; (conv => whnf); refine SPick.y (by assumption) ?_; (conv => whnf); rotate_left; refine SCond.n (by assumption) ?_; (conv => whnf)
  refine SCond.n (by assumption) ?_; (conv => whnf); refine SCond.n (by assumption) ?_; (conv => whnf); refine SCond.n (by assumption) ?_; (conv => whnf); refine SPick.n (by assumption) ?_; (conv => whnf); rotate_left
  · refine .p (.refl _) ?_
    have h1 : x.key = y.key := by simpa using hc
    have : (x.val = y.val) ↔ x = y := ⟨fun h => row_ext h1 h, fun h => by rw [h]⟩
    simp only [this]
  · refine .p (.refl _) ?_
    have : ¬ x = y := fun e => by subst e; simp at *
    simp [this]
theorem death2_any (w0 : World) (m : Msg) : CallP Tryz.prog w0 28 [eMsg m] (.int .i64 (deathN m)) := by
  refine CallP.x Ty.tok Ty.mixed Tryz.func28 rfl Tryz.ntmps28 rfl (by simp) (by decide +kernel) fun σ => ?_
  (conv => whnf); refine SBox.f ?_; (conv => whnf)
  (refine SIf.x Ty.mixed (fun hc => ?_) (fun hc => ?_) <;> (conv => whnf))
  rotate_left; refine SReg.t 0 [] (by decide +kernel) ?_; (conv => whnf); refine SCall.p (by exact deaths2_any w0) ?_; (conv => whnf)
  refine ⟨_, ⟨by first | omega | (simp only [List.length_cons, List.length_append, List.length_nil, List.length_map, length_aBytes, List.length_replicate, List.length_range]; omega) | fail, by rfl⟩, ?_⟩
  (conv => whnf)
  (refine SIf.x Ty.mixed (fun hc => ?_) (fun hc => ?_) <;> (conv => whnf))
  rotate_left; rotate_left
  all_goals refine .p (.refl _) ?_
  all_goals simp_all [deathN]
theorem form2_room (w0 : World) (l : List Fm) (hl : FmOk l) (σ : St) : CallW Tryz.prog w0 24 [.slc 1 (l.map eFm) .no] σ (fun r s => ∃ tk', r = .slc 1 (aBytes (fB l)) tk' ∧ Moves σ .full s tk') := by
  refine CallW.x Ty.tok Ty.mixed Tryz.func24 rfl Tryz.ntmps24 rfl (by simp) (by decide +kernel) (.nil σ) ?_
  obtain ⟨h1, h2⟩ := hl
  (conv => whnf)
  skip
  refine SLoop.by Ty.mixed (fun (a : Nat × Tok) => l.length - a.1) (fun (i, tk) => [(3, .slc 1 (aBytes (fB (l.take i))) tk), (8, .slc 1 (l.map eFm) .no), (9, .int .i64 l.length), (10, .int .i64 i)]) (fun _ => []) (fun (i, tk) s => i ≤ l.length ∧ Moves σ .full s tk) (0, .full) ⟨?_, BSub.none _, Nat.zero_le _, .full σ⟩ ?_
  · show xWeak [(3, .slc 1 (aBytes (fB (l.take 0))) .full), (8, .slc 1 (l.map eFm) .no), (9, .int .i64 l.length), (10, .int .i64 (0 : Nat))] _
    rw [List.length_map]
    repeat (first | exact trivial | refine ⟨by first | trivial | exact Weak.refl _ | exact Weak.tok _ _ _ | exact Weak.of_eq (congrArg (AV.int _) (by omega)) | exact Weak.of_eq (congrArg AV.bool (by fail)) | exact Weak.nils _ _ (.inr rfl), ?_⟩)
  rintro ⟨i, tk⟩ s ⟨hi, hm⟩; (conv => whnf)
  skip
  (refine SIf.x Ty.mixed (fun hc => ?_) (fun hc => ?_) <;> (conv => whnf))
  · have hlt : i < l.length := by simp at hc; omega
    have ga : l[i]? = some l[i] := by simp [hlt]
    have hd : fB (l.take (i + 1)) = fB (l.take i) ++ f1 l[i] := by rw [fB_eq, fB_eq]; exact flat_take_snoc f1 ga
    have hb : (fB (l.take i)).length ≤ 2000000 := by
      have := fB_len (l := l.take i) fun x hx => h2 x (List.mem_of_mem_take hx)
      have := List.length_take_le i l
      have : (l.take i).length ≤ l.length := by simp; omega
      omega
    have hx := h2 l[i] (List.getElem_mem hlt)
    generalize l[i] = x at ga hd hx
    have ga' := get_map (f := eFm) ga
    cases x with
    | s v =>
      have hv : v.length ≤ 2000 := by simp only [f1, txt, List.length_append] at hx; omega
      simp only [f1] at hd hx
      refine ⟨_, ⟨by first | omega | (simp only [List.length_cons, List.length_append, List.length_nil, List.length_map, length_aBytes, List.length_replicate, List.length_range]; omega) | fail, by exact ga'⟩, ?_⟩
      (conv => whnf); refine SIf.y Ty.mixed (by exact rfl) ?_; (conv => whnf); refine SCall.p (by exact text_p w0 _ (by omega)) ?_; (conv => whnf)
      refine SApp.c rfl rfl (by assumption) (by simp only [length_aBytes, List.length_append, List.length_cons, List.length_nil, List.length_map, List.length_range]; omega) fun tk1 σ1 hm => ?_
      (conv => whnf); refine ⟨_, IntWalk.i64_in _ (by omega), ?_⟩; (conv => whnf)
      refine ⟨(i + 1, tk1), by show l.length - (i + 1) < l.length - i; omega, ?_, BSub.none _, by omega, hm⟩
      show xWeak [(3, .slc 1 (aBytes (fB (l.take (i + 1)))) tk1), (8, .slc 1 (l.map eFm) .no), (9, .int .i64 l.length), (10, .int .i64 (i + 1 : Nat))] _
      rw [hd, aBytes_append]
      repeat (first | exact trivial | refine ⟨by first | trivial | exact Weak.refl _ | exact Weak.tok _ _ _ | exact Weak.of_eq (congrArg (AV.int _) (by omega)) | exact Weak.of_eq (congrArg AV.bool (by fail)) | exact Weak.nils _ _ (.inr rfl), ?_⟩)
    | n k =>
      simp only [f1] at hd hx
      refine ⟨_, ⟨by first | omega | (simp only [List.length_cons, List.length_append, List.length_nil, List.length_map, length_aBytes, List.length_replicate, List.length_range]; omega) | fail, by exact ga'⟩, ?_⟩
      (conv => whnf); refine SIf.n Ty.mixed (by exact rfl) ?_; (conv => whnf); refine SIf.y Ty.mixed (by exact rfl) ?_; (conv => whnf); refine SCall.p (by exact num_p w0 _) ?_; (conv => whnf)
      refine SApp.c rfl rfl (by assumption) (by simp only [length_aBytes, List.length_append, List.length_cons, List.length_nil, List.length_map, List.length_range]; omega) fun tk1 σ1 hm => ?_
      (conv => whnf); refine ⟨_, IntWalk.i64_in _ (by omega), ?_⟩; (conv => whnf)
      refine ⟨(i + 1, tk1), by show l.length - (i + 1) < l.length - i; omega, ?_, BSub.none _, by omega, hm⟩
      show xWeak [(3, .slc 1 (aBytes (fB (l.take (i + 1)))) tk1), (8, .slc 1 (l.map eFm) .no), (9, .int .i64 l.length), (10, .int .i64 (i + 1 : Nat))] _
      rw [hd, aBytes_append]
      repeat (first | exact trivial | refine ⟨by first | trivial | exact Weak.refl _ | exact Weak.tok _ _ _ | exact Weak.of_eq (congrArg (AV.int _) (by omega)) | exact Weak.of_eq (congrArg AV.bool (by fail)) | exact Weak.nils _ _ (.inr rfl), ?_⟩)
  · have hge : i = l.length := by simp at hc; omega
    subst hge
    skip
    rw [List.take_length]
    exact .w ⟨tk, rfl, hm⟩
theorem form2_p (w0 : World) (l : List Fm) (hl : FmOk l) : CallP Tryz.prog w0 24 [.slc 1 (l.map eFm) .no] (.slc 1 (aBytes (fB l)) .no) := fun σ => (form2_room w0 l hl σ).room
theorem form2_t (w0 : World) (l : List Fm) (hl : FmS l) (hn : l.length ≤ 1000) (tk : Tok) {bs : List UInt8} (hb : fB l = bs) : CallP Tryz.prog w0 24 [.slc 1 (l.map eFm) tk] (.slc 1 (aBytes bs) .no) :=
  fun σ => hb ▸ CallW.weak1 [] [] (.tok 1 (l.map eFm) tk) (form2_p w0 l ⟨hn, hl.ok⟩ σ)
theorem form2_c (w0 : World) (l : List Fm) (hl : FmS l) (hn : l.length ≤ 1000) (tk : Tok) {bs : List UInt8} (hb : fB l = bs) (σ : St) : CallW Tryz.prog w0 24 [.slc 1 (l.map eFm) tk] σ (fun r s => ∃ tk', r = .slc 1 (aBytes bs) tk' ∧ Moves σ .full s tk') :=
  hb ▸ CallW.weak1 [] [] (.tok 1 (l.map eFm) tk) (form2_room w0 l ⟨hn, hl.ok⟩ σ)
end Go.Proofs.YtkbmkhhcppfcnaaGreatDoor
end
section
set_option linter.unusedVariables false
set_option linter.unusedSimpArgs false
set_option maxRecDepth 100000
set_option maxHeartbeats 1000000
namespace Go.Proofs.YtkbmkhhcppfcnaaGreatDoor
open Go.Al Go.RowKit
theorem rising2_any (w0 : World) (l : List Row) (tk : Tok) (hl : l.length ≤ 1000000) : CallP Tryz.prog w0 51 [.slc 2 (l.map eRow) tk] (.bool (upTo l l.length)) := by
  refine CallP.x Ty.tok Ty.mixed Tryz.func51 rfl Tryz.ntmps51 rfl (by simp) (by decide +kernel) fun σ => ?_
  (conv => whnf)
  skip
  refine SLoop.by Ty.mixed (fun i => l.length - i) (fun i => [(0, .slc 2 (l.map eRow) .no), (5, .int .i64 l.length), (6, .int .i64 i)]) (fun _ => []) (fun i s => i ≤ l.length ∧ upTo l i = true ∧ s = σ) 0 ⟨?_, BSub.none _, Nat.zero_le _, rfl, rfl⟩ ?_
  · show xWeak [(0, .slc 2 (l.map eRow) .no), (5, .int .i64 l.length), (6, .int .i64 (0 : Nat))] _
    rw [List.length_map]
    repeat (first | exact trivial | refine ⟨by first | trivial | exact Weak.refl _ | exact Weak.tok _ _ _ | exact Weak.of_eq (congrArg (AV.int _) (by omega)) | exact Weak.of_eq (congrArg AV.bool (by fail)) | exact Weak.nils _ _ (.inr rfl), ?_⟩)
  rintro i s ⟨hi, hu, rfl⟩; (conv => whnf)
  skip
  (refine SIf.x Ty.mixed (fun hc => ?_) (fun hc => ?_) <;> (conv => whnf))
  · have hlt : i < l.length := by simp at hc; omega
    have ga : l[i]? = some l[i] := by simp [hlt]
    have hup : upTo l (i + 1) = (upTo l i && (decide (i = 0) || !leS ((l[i]?.getD ⟨[], []⟩).key) ((l[i - 1]?.getD ⟨[], []⟩).key))) := rfl
    by_cases h0 : i = 0
    · subst h0
      have d3 : decide ((0 : Int) < ((0 : Nat) : Int)) = false := rfl
      refine SReg.d [0, 1, 2, 3, 4, 5, 6, 7, 8, 9, 10, 11, 12, 13, 14, 15] [0, 0, 0, 0, 0, 0, 0, 0, 0, 0, 0, 0, 0, 0, 0, 0] (by decide +kernel) ?_; (conv => whnf); (conv => whnf); refine SCond.n (by exact rfl) ?_; (conv => whnf); refine SCond.n (by exact rfl) ?_; (conv => whnf); refine SCond.n (by exact rfl) ?_; (conv => whnf); refine SCond.n (by exact rfl) ?_; (conv => whnf); refine SCond.n (by exact rfl) ?_; (conv => whnf); refine SCond.n (by exact rfl) ?_; (conv => whnf)
      refine SCond.n (by exact rfl) ?_; (conv => whnf); refine SCond.n (by exact rfl) ?_; (conv => whnf); refine SCond.n (by exact rfl) ?_; (conv => whnf); refine SCond.n (by exact rfl) ?_; (conv => whnf); refine SCond.n (by exact rfl) ?_; (conv => whnf); refine SCond.n (by exact rfl) ?_; (conv => whnf); refine SPick.n (by exact rfl) ?_; (conv => whnf); refine SIf.n Ty.mixed (by exact rfl) ?_
      (conv => whnf); refine ⟨_, IntWalk.i64_in _ (by omega), ?_⟩; (conv => whnf)
      exact ⟨0 + 1, by omega, ⟨by repeat (first | exact trivial | refine ⟨by first | trivial | exact Weak.refl _ | exact Weak.tok _ _ _ | exact Weak.of_eq (congrArg (AV.int _) (by omega)) | exact Weak.of_eq (congrArg AV.bool (by fail)) | exact Weak.nils _ _ (.inr rfl), ?_⟩), BSub.none _, by omega, rfl, rfl⟩⟩
    · have d3 : decide ((0 : Int) < (i : Int)) = true := decide_eq_true (by omega)
      have gp : l[((i : Int) - 1).toNat]? = some (l[i - 1]'(by omega)) := by rw [show ((i : Int) - 1).toNat = i - 1 by omega]; simp
      have gp' : l[i - 1]? = some (l[i - 1]'(by omega)) := by simp
      rw [hu, ga, gp', Option.getD_some, Option.getD_some] at hup
      generalize l[i] = x at ga hup
      generalize l[i - 1]'(by omega) = y at gp hup gp'
      refine SReg.d [0, 1, 2, 3, 4, 5, 6, 7, 8, 9, 10, 11, 12, 13, 14, 15] [0, 0, 0, 0, 0, 0, 0, 0, 0, 0, 0, 0, 0, 0, 0, 0] (by decide +kernel) ?_; (conv => whnf); (conv => whnf); refine SCond.y (by assumption) ?_; (conv => whnf); refine SCond.y (by assumption) ?_; (conv => whnf); refine SCond.y (by assumption) ?_; (conv => whnf)
      refine ⟨_, ⟨by first | omega | (simp only [List.length_cons, List.length_append, List.length_nil, List.length_map, length_aBytes, List.length_replicate, List.length_range]; omega) | fail, by first | exact get_map ga | exact get_map gp | fail⟩, ?_⟩
      (conv => whnf); refine SCond.y (by assumption) ?_; (conv => whnf); refine SCond.y (by assumption) ?_; (conv => whnf); refine SCond.y (by assumption) ?_; (conv => whnf); refine SCond.y (by assumption) ?_; (conv => whnf); refine SCond.y (by assumption) ?_; (conv => whnf); refine ⟨_, IntWalk.i64_in _ (by omega), ?_⟩; (conv => whnf); refine SCond.y (by assumption) ?_; (conv => whnf)
      refine ⟨_, ⟨by first | omega | (simp only [List.length_cons, List.length_append, List.length_nil, List.length_map, length_aBytes, List.length_replicate, List.length_range]; omega) | fail, by first | exact get_map ga | exact get_map gp | fail⟩, ?_⟩
      (conv => whnf); refine SCond.y (by assumption) ?_; (conv => whnf); refine SCond.y (by assumption) ?_; (conv => whnf); refine SCond.y (by assumption) ?_; (conv => whnf); refine SPick.y (by assumption) ?_; (conv => whnf)
      (refine SIf.x Ty.mixed (fun hc => ?_) (fun hc => ?_) <;> (conv => whnf))
      · skip
        refine .p (.refl _) ?_
        have : upTo l (i + 1) = false := by rw [hup]; simp only [leS]; rw [hc]; simp [h0]
        rw [upTo_false (show i + 1 ≤ l.length by omega) this]
      · refine ⟨_, IntWalk.i64_in _ (by omega), ?_⟩
        (conv => whnf)
        refine ⟨i + 1, by omega, ⟨by repeat (first | exact trivial | refine ⟨by first | trivial | exact Weak.refl _ | exact Weak.tok _ _ _ | exact Weak.of_eq (congrArg (AV.int _) (by omega)) | exact Weak.of_eq (congrArg AV.bool (by fail)) | exact Weak.nils _ _ (.inr rfl), ?_⟩), BSub.none _, by omega, ?_, rfl⟩⟩
        rw [hup]; simp only [leS]; rw [hc]; simp
  · have hge : i = l.length := by simp at hc; omega
    subst hge
    skip
    exact .p (.refl _) (by rw [hu])
theorem less2_any (w0 : World) (σ : St) (b : Nat) (n was : Int) (hb : σ.box b = some [.int .i64 was]) : CallW Tryz.prog w0 63 [.int .i64 n, .ptr b 0] σ (fun r s => r = .int .i64 (w64 (n - was)) ∧ s = σ.setBox b [.int .i64 n]) := by
  refine CallW.x (B := [(b, [.int .i64 was])]) Ty.tok Ty.mixed Tryz.func63 rfl Tryz.ntmps63 rfl (by simp) (by decide +kernel) ⟨by simpa using hb, by simp⟩ ?_
  (conv => whnf); refine SLoad.on 0 rfl ?_; (conv => whnf); refine SStore.on 0 rfl ?_; (conv => whnf); refine ⟨_, rfl, ?_⟩; (conv => whnf); exact .p (.refl _) rfl
theorem gaps2_p (w0 : World) (fr : Int) (l : List Int) (tk : Tok) (hl : l.length ≤ 100000) : CallP Tryz.prog w0 22 [.int .i64 fr, .slc 1 (l.map (.int .i64)) tk] (.slc 1 (aBytes (num l.length ++ gapsB fr l)) .no) := by
  refine CallP.x Ty.tok Ty.mixed Tryz.func22 rfl Tryz.ntmps22 rfl (by simp) (by decide +kernel) fun σ => ?_
  (conv => whnf); refine SBox.b rfl ?_; (conv => whnf); intro b1 hb1; (conv => whnf)
  refine SCall.c (by exact form2_c (bs := num _) w0 [.n _] trivial (Nat.le_of_ble_eq_true rfl) _ rfl _) (by exact Moves.full _) rfl fun tk1 σ1 hm => ?_
  (conv => whnf)
  have hb0 := gapsB_len l fr
  have hn0 := num_len l.length
  rw [List.length_map]
  refine SLoop.by Ty.mixed (fun (a : Nat × Tok × List UInt8 × Int) => l.length - a.1) (fun (i, tk, acc, la) => [(5, .slc 1 (aBytes acc) tk), (6, .fn (.func 63) [] [.ptr b1 0]), (15, .slc 1 (l.map (.int .i64)) .no), (16, .int .i64 l.length), (17, .int .i64 i)]) (fun (i, tk, acc, la) => [(b1, [.int .i64 la])]) (fun (i, tk, acc, la) s => i ≤ l.length ∧ acc.length ≤ 8 + 8 * i ∧ num l.length ++ gapsB fr l = acc ++ gapsB la (l.drop i) ∧ Moves (σ.setBox b1 [.int .i64 la]) .full s tk) (0, tk1, num l.length, fr) ⟨?_, .refl _, Nat.zero_le _, by omega, by simp, hm⟩ ?_
  · show xWeak [(5, .slc 1 (aBytes (num l.length)) tk1), (6, .fn (.func 63) [] [.ptr b1 0]), (15, .slc 1 (l.map (.int .i64)) .no), (16, .int .i64 l.length), (17, .int .i64 (0 : Nat))] _
    repeat (first | exact trivial | refine ⟨by first | trivial | exact Weak.refl _ | exact Weak.tok _ _ _ | exact Weak.of_eq (congrArg (AV.int _) (by omega)) | exact Weak.of_eq (congrArg AV.bool (by fail)) | exact Weak.nils _ _ (.inr rfl), ?_⟩)
  clear hm; rintro ⟨i, tk, acc, la⟩ s ⟨hi, ha, hg, hm⟩; (conv => whnf)
  skip
  (refine SIf.x Ty.mixed (fun hc => ?_) (fun hc => ?_) <;> (conv => whnf))
  · have hlt : i < l.length := by simp at hc; omega
    have ga : l[i]? = some l[i] := by simp [hlt]
    have hd := gapsB_drop ga la
    generalize l[i] = n at ga hd
    have ga' := get_map (f := AV.int .i64) ga
    have hk := num_len (w64 (n - la))
    have hm' := hm.set b1 [.int .i64 n]
    rw [setBox_setBox] at hm'
    refine ⟨_, ⟨by first | omega | (simp only [List.length_cons, List.length_append, List.length_nil, List.length_map, length_aBytes, List.length_replicate, List.length_range]; omega) | fail, by exact ga'⟩, ?_⟩
    (conv => whnf); refine SCall.b 0 (fun hb => by exact less2_any w0 _ b1 n la (hm.box _ _ setBox_same)) rfl rfl ?_; (conv => whnf); refine SCall.p (by exact form2_t (bs := num _) w0 [.n _] trivial (Nat.le_of_ble_eq_true rfl) _ rfl) ?_; (conv => whnf)
    refine SApp.c rfl rfl (by assumption) (by simp only [length_aBytes]; omega) fun tk1 σ1 hm => ?_
    (conv => whnf); refine ⟨_, IntWalk.i64_in _ (by omega), ?_⟩; (conv => whnf)
    refine ⟨(i + 1, tk1, acc ++ num (w64 (n - la)), n), by show l.length - (i + 1) < l.length - i; omega, ?_, .refl _, by omega, by simp only [List.length_append]; omega, ?_, hm⟩
    · show xWeak [(5, .slc 1 (aBytes (acc ++ num (w64 (n - la)))) tk1), (6, .fn (.func 63) [] [.ptr b1 0]), (15, .slc 1 (l.map (.int .i64)) .no), (16, .int .i64 l.length), (17, .int .i64 (i + 1 : Nat))] _
      rw [aBytes_append]
      repeat (first | exact trivial | refine ⟨by first | trivial | exact Weak.refl _ | exact Weak.tok _ _ _ | exact Weak.of_eq (congrArg (AV.int _) (by omega)) | exact Weak.of_eq (congrArg AV.bool (by fail)) | exact Weak.nils _ _ (.inr rfl), ?_⟩)
    · rw [hg, hd, List.append_assoc]
  · have hge : i = l.length := by simp at hc; omega
    subst hge
    skip
    rw [List.drop_length, gapsB, List.append_nil] at hg
    refine .v (.trans (le_setBox (.refl _) hb1) hm.le) ?_
    rw [hg]
    exact .tok ..
end Go.Proofs.YtkbmkhhcppfcnaaGreatDoor
end
section
set_option linter.unusedVariables false
set_option linter.unusedSimpArgs false
set_option maxRecDepth 100000
set_option maxHeartbeats 1000000
namespace Go.Proofs.YtkbmkhhcppfcnaaGreatDoor
open Go.Al Go.RowKit
theorem lay2_any (w0 : World) (hL : Laid w0) (x : Sub) (t : UInt8) (seq : Int) (v : List UInt8) (tv : Tok) (rows : List Row) (bo : Nat) (tk : Tok) (σ : St) (hb : σ.box bo = some [.slc 2 (rows.map eRow) tk]) (hr : Room σ tk) (hn : rows.length ≤ 10000000) :
    CallW Tryz.prog w0 19 [.int .u8 t.toNat, .int .i64 seq, .slc 1 (aBytes v) tv, .ptr bo 0, .vp (eSub x)] σ (fun r s => r = .tup [] ∧ ∃ tk', Moves (σ.setBox bo [.slc 2 ((rows ++ [(⟨rkey 2 t x.id seq, v⟩ : Row)]).map eRow) tk']) tk s tk') := by
  refine CallW.weak1 [_, _] [_, _] (.tok 1 (aBytes v) tv) ?_
  refine CallW.x (B := [(bo, [.slc 2 (rows.map eRow) tk])]) Ty.tok Ty.mixed Tryz.func19 rfl Tryz.ntmps19 rfl (by simp) (by decide +kernel) ⟨by simpa using hb, by simp⟩ ?_
  (conv => whnf); refine SReg.d [1, 2, 4, 6, 0, 3, 5, 7, 8, 9, 10] [1, 0, 0, 1, 0, 0, 0, 0, 0, 2, 2] (by decide +kernel) ?_; (conv => whnf); (conv => whnf); refine SLoad.on 0 rfl ?_; (conv => whnf); refine SCall.p (by exact keyS_any w0 hL 2 (by omega) t _ _) ?_; (conv => whnf)
  refine SApp.c rfl rfl (by exact Moves.refl hr) (by simp only [length_aBytes, List.length_append, List.length_cons, List.length_nil, List.length_map, List.length_range]; omega) fun tk1 σ1 hm => ?_
  (conv => whnf); refine SStore.on 0 rfl ?_; (conv => whnf); refine .w ⟨rfl, tk1, ?_⟩
  rw [List.map_append]
  exact hm.set bo _
def nilOr : List UInt8 → AV
  | [] => .nils
  | c :: r => .slc 1 (aBytes (c :: r)) .no
def rowsOf (x : Sub) (t : UInt8) (f : Msg → List UInt8) (l : List Msg) : List Row := l.flatMap fun m => if f m = [] then [] else [⟨rkey 2 t x.id m.seq, f m⟩]
theorem rowsOf_len (x : Sub) (t : UInt8) (f : Msg → List UInt8) : ∀ l : List Msg, (rowsOf x t f l).length ≤ l.length
  | [] => by simp [rowsOf]
  | m :: l => by
    have := rowsOf_len x t f l
    have h1 : (if f m = [] then [] else [(⟨rkey 2 t x.id m.seq, f m⟩ : Row)]).length ≤ 1 := by split <;> simp
    simp only [rowsOf, List.flatMap_cons, List.length_append, List.length_cons] at this ⊢
    omega
theorem each2_any (w0 : World) (hL : Laid w0) (x : Sub) (hx : x.queue.length ≤ 100000) (t : UInt8) (g : FuncId) (f : Msg → List UInt8) [hf : OwnF Tryz.prog g] (hg : ∀ m ∈ x.queue, CallP Tryz.prog w0 g [eMsg m] (nilOr (f m))) (rows : List Row) (bo b4 : Nat) (tk : Tok) (σ : St)
    (hb : σ.box bo = some [.slc 2 (rows.map eRow) tk]) (h4 : σ.box b4 = some [.fn (.func 19) [] [.ptr bo 0, .vp (eSub x)]]) (hne : bo ≠ b4) (hr : Room σ tk) (hn : rows.length ≤ 1000000) :
    CallW Tryz.prog w0 21 [.int .u8 t.toNat, .fn (.func g) [] [], .vp (eSub x), .ptr b4 0] σ (fun r s => r = .tup [] ∧ ∃ tk', Moves (σ.setBox bo [.slc 2 ((rows ++ rowsOf x t f x.queue).map eRow) tk']) tk s tk') := by
  refine CallW.x (B := [(bo, [.slc 2 (rows.map eRow) tk]), (b4, [.fn (.func 19) [] [.ptr bo 0, .vp (eSub x)]])]) Ty.tok Ty.mixed Tryz.func21 rfl Tryz.ntmps21 rfl (by simp) (by decide +kernel) ⟨by simp [hb, h4], by simp [hne]⟩ ?_
  (conv => whnf)
  skip
  refine SLoop.by Ty.mixed (fun (a : Nat × Tok) => x.queue.length - a.1) (fun (i, tk) => [(0, .int .u8 t.toNat), (1, .fn (.func g) [] []), (2, .vp (eSub x)), (3, .ptr b4 0), (10, .slc 8 (x.queue.map eMsg) .no), (11, .int .i64 x.queue.length), (12, .int .i64 i)]) (fun (i, tk) => [(bo, [.slc 2 ((rows ++ rowsOf x t f (x.queue.take i)).map eRow) tk]), (b4, [.fn (.func 19) [] [.ptr bo 0, .vp (eSub x)]])])
    (fun (i, tk') s => i ≤ x.queue.length ∧ Moves (σ.setBox bo [.slc 2 ((rows ++ rowsOf x t f (x.queue.take i)).map eRow) tk']) tk s tk') (0, tk) ⟨?_, ?_, Nat.zero_le _, ?_⟩ ?_
  · show xWeak [(0, .int .u8 t.toNat), (1, .fn (.func g) [] []), (2, .vp (eSub x)), (3, .ptr b4 0), (10, .slc 8 (x.queue.map eMsg) .no), (11, .int .i64 x.queue.length), (12, .int .i64 (0 : Nat))] _
    rw [List.length_map]
    repeat (first | exact trivial | refine ⟨by first | trivial | exact Weak.refl _ | exact Weak.tok _ _ _ | exact Weak.of_eq (congrArg (AV.int _) (by omega)) | exact Weak.of_eq (congrArg AV.bool (by fail)) | exact Weak.nils _ _ (.inr rfl), ?_⟩)
  · show BSub [(bo, [.slc 2 ((rows ++ rowsOf x t f (x.queue.take 0)).map eRow) tk]), (b4, _)] _
    rw [List.take_zero, rowsOf, List.flatMap_nil, List.append_nil]
    exact .refl _
  · show Moves (σ.setBox bo [.slc 2 ((rows ++ rowsOf x t f (x.queue.take 0)).map eRow) tk]) tk σ tk
    rw [List.take_zero, rowsOf, List.flatMap_nil, List.append_nil, setBox_self hb]
    exact .refl hr
  rintro ⟨i, tk'⟩ s ⟨hi, hm0⟩; (conv => whnf)
  skip
  (refine SIf.x Ty.mixed (fun hc => ?_) (fun hc => ?_) <;> (conv => whnf))
  · have hlt : i < x.queue.length := by simp at hc; omega
    have ga : x.queue[i]? = some x.queue[i] := by simp [hlt]
    have hd : rowsOf x t f (x.queue.take (i + 1)) = rowsOf x t f (x.queue.take i) ++ (if f x.queue[i] = [] then [] else [⟨rkey 2 t x.id x.queue[i].seq, f x.queue[i]⟩]) := flat_take_snoc _ ga
    have hgm := hg _ (List.getElem_mem hlt)
    have hl0 := rowsOf_len x t f (x.queue.take i)
    have hl1 := List.length_take_le i x.queue
    generalize x.queue[i] = m at ga hd hgm
    have ga' := get_map (f := eMsg) ga
    cases hv : f m with
    | nil =>
      rw [hv] at hgm hd
      refine ⟨_, ⟨by first | omega | (simp only [List.length_cons, List.length_append, List.length_nil, List.length_map, length_aBytes, List.length_replicate, List.length_range]; omega) | fail, by exact ga'⟩, ?_⟩
      (conv => whnf); intro b1 hb1; (conv => whnf); refine SStore.on 0 rfl ?_; (conv => whnf); refine SLoad.on 0 rfl ?_; (conv => whnf); refine SCall.p (by exact hgm) ?_; (conv => whnf); refine SIf.n Ty.mixed (by exact rfl) ?_; (conv => whnf); refine ⟨_, IntWalk.i64_in _ (by omega), ?_⟩; (conv => whnf)
      refine ⟨(i + 1, tk'), by show x.queue.length - (i + 1) < x.queue.length - i; omega, by repeat (first | exact trivial | refine ⟨by first | trivial | exact Weak.refl _ | exact Weak.tok _ _ _ | exact Weak.of_eq (congrArg (AV.int _) (by omega)) | exact Weak.of_eq (congrArg AV.bool (by fail)) | exact Weak.nils _ _ (.inr rfl), ?_⟩), ?_, by omega, ?_⟩
      · refine .drop ?_
        show BSub [(bo, [.slc 2 ((rows ++ rowsOf x t f (x.queue.take (i + 1))).map eRow) tk']), (b4, _)] _
        rw [hd, if_pos rfl, List.append_nil]
        exact .refl _
      · show Moves (σ.setBox bo [.slc 2 ((rows ++ rowsOf x t f (x.queue.take (i + 1))).map eRow) tk']) tk _ tk'
        rw [hd, if_pos rfl, List.append_nil]
        exact hm0.new2 (by assumption)
    | cons c r =>
      rw [hv] at hgm hd
      refine ⟨_, ⟨by first | omega | (simp only [List.length_cons, List.length_append, List.length_nil, List.length_map, length_aBytes, List.length_replicate, List.length_range]; omega) | fail, by exact ga'⟩, ?_⟩
      (conv => whnf); intro b1 hb1; (conv => whnf); refine SStore.on 0 rfl ?_; (conv => whnf); refine SLoad.on 0 rfl ?_; (conv => whnf); refine SCall.p (by exact hgm) ?_; (conv => whnf); refine SIf.y Ty.mixed (by exact rfl) ?_; (conv => whnf); refine SLoad.on 2 rfl ?_; (conv => whnf); refine SLoad.on 0 rfl ?_; (conv => whnf)
      refine SCall.o 1 (fun hb => by exact lay2_any w0 hL x t _ _ _ _ bo _ _ (by assumption) ((hm0.new2 (by assumption)).room) (by simp only [List.length_append]; omega)) rfl rfl fun tk1 σ1 hn1 => ?_
      (conv => whnf); refine ⟨_, IntWalk.i64_in _ (by omega), ?_⟩; (conv => whnf)
      have e2 : rows ++ rowsOf x t f (x.queue.take (i + 1)) = (rows ++ rowsOf x t f (x.queue.take i)) ++ [⟨rkey 2 t x.id m.seq, c :: r⟩] := by rw [hd, if_neg (by simp), ← List.append_assoc]
      refine ⟨(i + 1, tk1), by show x.queue.length - (i + 1) < x.queue.length - i; omega, by repeat (first | exact trivial | refine ⟨by first | trivial | exact Weak.refl _ | exact Weak.tok _ _ _ | exact Weak.of_eq (congrArg (AV.int _) (by omega)) | exact Weak.of_eq (congrArg AV.bool (by fail)) | exact Weak.nils _ _ (.inr rfl), ?_⟩), ?_, by omega, ?_⟩
      · refine .drop ?_
        show BSub [(bo, [.slc 2 ((rows ++ rowsOf x t f (x.queue.take (i + 1))).map eRow) tk1]), (b4, _)] _
        rw [e2]
        exact .refl _
      · show Moves (σ.setBox bo [.slc 2 ((rows ++ rowsOf x t f (x.queue.take (i + 1))).map eRow) tk1]) tk _ tk1
        rw [e2]
        exact (hm0.new2 (by assumption)).chain hn1
  · have hge : i = x.queue.length := by simp at hc; omega
    subst hge
    skip
    rw [List.take_length] at hm0
    exact .w ⟨rfl, tk', hm0⟩
end Go.Proofs.YtkbmkhhcppfcnaaGreatDoor
end
section
set_option linter.unusedVariables false
set_option linter.unusedSimpArgs false
set_option maxRecDepth 100000
set_option maxHeartbeats 1000000
namespace Go.Proofs.YtkbmkhhcppfcnaaGreatDoor
open Go.Al Go.RowKit
theorem nilOr_ne {l : List UInt8} (h : l ≠ []) : nilOr l = .slc 1 (aBytes l) .no := by
  cases l with
  | nil => exact absurd rfl h
  | cons c r => rfl
theorem num_ne (n : Int) : num n ≠ [] := by obtain ⟨c, r, h⟩ := num_pos n; rw [h]; simp
theorem txt_ne (s : List UInt8) : txt s ≠ [] := by obtain ⟨c, r, h⟩ := f1_pos (.s s); simp only [f1] at h; rw [h]; simp
def xN (m : Msg) : List UInt8 := if m.prio ≠ 0 ∨ m.dead = true then xB m else []
theorem qB2_ne (m : Msg) : qB2 m ≠ [] := by unfold qB2; simp [txt_ne]
theorem xB_ne (m : Msg) : xB m ≠ [] := by unfold xB; simp [num_ne]
theorem of3_any (w0 : World) (m : Msg) (h : m.body.length ≤ 1000) : CallP Tryz.prog w0 23 [eMsg m] (nilOr (txt m.body)) := by
  refine CallP.x Ty.tok Ty.mixed Tryz.func23 rfl Tryz.ntmps23 rfl (by simp) (by decide +kernel) fun σ => ?_
  (conv => whnf); refine SBox.f ?_; (conv => whnf); refine SCall.p (by exact form2_t (bs := txt _) w0 [.s _] ⟨h, trivial⟩ (Nat.le_of_ble_eq_true rfl) _ rfl) ?_; (conv => whnf); exact .p (.refl _) (nilOr_ne (txt_ne _))
theorem of4_any (w0 : World) (m : Msg) (h : m.attr.length ≤ 1000) : CallP Tryz.prog w0 25 [eMsg m] (nilOr (qB2 m)) := by
  refine CallP.x Ty.tok Ty.mixed Tryz.func25 rfl Tryz.ntmps25 rfl (by simp) (by decide +kernel) fun σ => ?_
  (conv => whnf); refine SBox.f ?_; (conv => whnf); refine SReg.d [0, 1, 2, 3, 4, 5, 6, 7, 8, 9, 10, 11, 12, 13, 14, 15] [0, 0, 0, 0, 0, 0, 0, 0, 0, 0, 0, 0, 0, 0, 0, 0] (by decide +kernel) ?_; (conv => whnf); (conv => whnf); refine SCall.p (by exact flag2_any w0 _) ?_; (conv => whnf); refine SCall.p (by exact form2_t (bs := qB2 m) w0 [.s _, .n _, .n _, .n _] ⟨h, trivial⟩ (Nat.le_of_ble_eq_true rfl) _ rfl) ?_; (conv => whnf); exact .p (.refl _) (nilOr_ne (qB2_ne _))
theorem of5_any (w0 : World) (m : Msg) : CallP Tryz.prog w0 27 [eMsg m] (nilOr (xN m)) := by
  refine CallP.x Ty.tok Ty.mixed Tryz.func27 rfl Tryz.ntmps27 rfl (by simp) (by decide +kernel) fun σ => ?_
  (conv => whnf); refine SBox.f ?_; (conv => whnf)
  (refine SCond.mk (fun hc => ?_) (fun hc => ?_) <;> (conv => whnf))
  refine SCond.y (by assumption) ?_; (conv => whnf); refine SCond.y (by assumption) ?_; (conv => whnf); refine SPick.y (by assumption) ?_; (conv => whnf)
  (refine SIf.x Ty.mixed (fun hc => ?_) (fun hc => ?_) <;> (conv => whnf))
  rotate_left; refine SReg.d [0, 1, 2, 3, 4, 5, 6, 7, 8] [0, 0, 0, 0, 0, 0, 0, 0, 0] (by decide +kernel) ?_; (conv => whnf); (conv => whnf); refine SCall.p (by exact death2_any w0 _) ?_; (conv => whnf); refine SCall.p (by exact form2_t (bs := xB m) w0 [.n _, .n _] trivial (Nat.le_of_ble_eq_true rfl) _ rfl) ?_; (conv => whnf); rotate_left; refine SCond.n (by assumption) ?_; (conv => whnf); refine SCond.n (by assumption) ?_
  (conv => whnf); refine SPick.n (by assumption) ?_; (conv => whnf); refine SIf.n Ty.mixed (by exact rfl) ?_; (conv => whnf); refine SReg.d [0, 1, 2, 3, 4, 5, 6, 7, 8] [0, 0, 0, 0, 0, 0, 0, 0, 0] (by decide +kernel) ?_; (conv => whnf); (conv => whnf); refine SCall.p (by exact death2_any w0 _) ?_; (conv => whnf); refine SCall.p (by exact form2_t (bs := xB m) w0 [.n _, .n _] trivial (Nat.le_of_ble_eq_true rfl) _ rfl) ?_
  (conv => whnf); rotate_left
  all_goals refine .p (.refl _) ?_
  · have : ¬ (m.prio ≠ 0 ∨ m.dead = true) := by simp_all
    rw [xN, if_neg this]; rfl
  · have : m.prio ≠ 0 ∨ m.dead = true := by simp_all
    rw [xN, if_pos this]; exact nilOr_ne (xB_ne m)
  · have : m.prio ≠ 0 ∨ m.dead = true := by simp_all
    rw [xN, if_pos this]; exact nilOr_ne (xB_ne m)
theorem rowsOf_b (x : Sub) (l : List Msg) : rowsOf x 98 (fun m => txt m.body) l = l.map (b2 x.id) := by
  unfold rowsOf
  induction l with
  | nil => rfl
  | cons m l ih => rw [List.flatMap_cons, ih, if_neg (txt_ne _)]; rfl
theorem rowsOf_q (x : Sub) (l : List Msg) : rowsOf x 113 qB2 l = l.map (q2 x.id) := by
  unfold rowsOf
  induction l with
  | nil => rfl
  | cons m l ih => rw [List.flatMap_cons, ih, if_neg (qB2_ne _)]; rfl
theorem rowsOf_x (x : Sub) (l : List Msg) : rowsOf x 120 xN l = l.flatMap (x2 x.id) := by
  unfold rowsOf
  induction l with
  | nil => rfl
  | cons m l ih =>
    rw [List.flatMap_cons, ih, List.flatMap_cons]
    congr 1
    unfold xN x2
    by_cases h : m.prio ≠ 0 ∨ m.dead = true
    · rw [if_pos h, if_neg (xB_ne m), if_pos h]
    · rw [if_neg h, if_pos rfl, if_neg h]
end Go.Proofs.YtkbmkhhcppfcnaaGreatDoor
end
section
set_option linter.unusedVariables false
set_option linter.unusedSimpArgs false
set_option maxRecDepth 100000
set_option maxHeartbeats 1000000
namespace Go.Proofs.YtkbmkhhcppfcnaaGreatDoor
open Go.Al Go.RowKit
theorem ack2_len (x : Sub) : (ack2 x).length ≤ 1 := by unfold ack2; split <;> simp
theorem note2_len (x : Sub) : (note2 x).length ≤ 1 := by unfold note2; split <;> simp
theorem enc2_p (w0 : World) (hL : Laid w0) (x : Sub) (hx : Fits x) : CallP Tryz.prog w0 9 [eSub x] (eRows (enc2 x)) := by
  refine CallP.x Ty.tok Ty.mixed Tryz.func9 rfl Tryz.ntmps9 rfl (by simp) (by decide +kernel) fun σ => ?_
  obtain ⟨hs1, hs2, hs3, hs4⟩ := And.intro hx.name (And.intro hx.topic (And.intro hx.want hx.note))
  have hna := hx.nacks
  have hnq := hx.nqueue
  (conv => whnf); refine SBox.f ?_; (conv => whnf)
  refine ⟨true, fun bo hbo => ?_⟩
  (conv => whnf); intro b4 hb4; (conv => whnf); refine SStore.on 0 rfl ?_; (conv => whnf)
  have hne : bo ≠ b4 := fun e => by subst e; rw [setBox_same] at hb4; cases hb4
  have hm : Moves (((σ.setBox b4 [.fn (.func 19) [] [.ptr bo 0, .vp (eSub x)]])).setBox bo [.slc 2 [] .full]) .full (((σ.setBox bo [.slc 2 [] .full]).setBox b4 [.nilfn]).setBox b4 [.fn (.func 19) [] [.ptr bo 0, .vp (eSub x)]]) .full := by
    rw [setBox_setBox, setBox_comm hne]
    exact .full _
  have hb4' : σ.box b4 = none := by rwa [setBox_ne (Ne.symm hne)] at hb4
  generalize hτ : (σ.setBox b4 [.fn (.func 19) [] [.ptr bo 0, .vp (eSub x)]]) = τ at hm
  have hle : St.Le σ τ := by rw [← hτ]; exact le_setBox (.refl _) hb4'
  have hb1 : τ.box bo = none := by rw [← hτ, setBox_ne hne]; exact hbo
  have hm : Moves (τ.setBox bo [.slc 2 (([] : List Row).map eRow) .full]) .full (((σ.setBox bo [.slc 2 [] .full]).setBox b4 [.nilfn]).setBox b4 [.fn (.func 19) [] [.ptr bo 0, .vp (eSub x)]]) .full := hm
  have kb4 : ∀ rows tk s, Moves (τ.setBox bo [.slc 2 (List.map eRow rows) tk]) .full s tk → s.box b4 = some [.fn (.func 19) [] [.ptr bo 0, .vp (eSub x)]] := fun rows tk s h => h.box _ _ (by rw [setBox_ne (Ne.symm hne), ← hτ]; exact setBox_same)
  have kbo : ∀ rows tk s, Moves (τ.setBox bo [.slc 2 (List.map eRow rows) tk]) .full s tk → s.box bo = some [.slc 2 (List.map eRow rows) tk] := fun rows tk s h => h.box _ _ setBox_same
  have la := ack2_len x
  have lb := rowsOf_len x 98 (fun m => txt m.body) x.queue
  have ln := note2_len x
  have lq := rowsOf_len x 113 qB2 x.queue
  have lx := rowsOf_len x 120 xN x.queue
  refine SIf.meet Ty.mixed (fun tk => [(1, .vp (eSub x)), (3, .ptr bo 0), (4, .ptr b4 0), (5, .fn (.func 21) [] [.vp (eSub x), .ptr b4 0])]) (fun tk => [(b4, [.fn (.func 19) [] [.ptr bo 0, .vp (eSub x)]]), (bo, [.slc 2 ((ack2 x).map eRow) tk])]) (fun tk s => Moves (τ.setBox bo [.slc 2 ((ack2 x).map eRow) tk]) .full s tk) (fun hc => ?_) (fun hc => ?_) ?_
  · have h0 : x.acks ≠ [] := by rintro e; rw [e] at hc; simp at hc
    have e1 : ack2 x = [] ++ [⟨rkey 2 97 x.id 0, acksB x⟩] := by rw [ack2, if_neg h0]; rfl
    (conv => whnf); refine SReg.d [1, 3, 0, 2, 4, 5, 6] [1, 0, 1, 0, 1, 0, 2] (by decide +kernel) ?_; (conv => whnf); (conv => whnf); refine SLoad.on 0 rfl ?_; (conv => whnf); refine SCall.p (by exact gaps2_p w0 _ _ _ (by omega)) ?_; (conv => whnf)
    refine SCall.o 1 (fun hb => by exact lay2_any w0 hL x 97 _ _ _ [] bo _ _ (kbo _ _ _ hm) hm.room (by simp)) rfl rfl fun tk1 σ1 hn1 => ?_
    (conv => whnf)
    have hm2 := hm.chain hn1
    rw [e1]
    exact ⟨tk1, by repeat (first | exact trivial | refine ⟨by first | trivial | exact Weak.refl _ | exact Weak.tok _ _ _ | exact Weak.of_eq (congrArg (AV.int _) (by omega)) | exact Weak.of_eq (congrArg AV.bool (by fail)) | exact Weak.nils _ _ (.inr rfl), ?_⟩), .refl _, hm2⟩
  · have h0 : x.acks = [] := by
      cases h : x.acks with
      | nil => rfl
      | cons a l => rw [h] at hc; simp at hc
    have e1 : ack2 x = [] := by rw [ack2, if_pos h0]
    rw [e1]
    (conv => whnf)
    exact ⟨.full, by repeat (first | exact trivial | refine ⟨by first | trivial | exact Weak.refl _ | exact Weak.tok _ _ _ | exact Weak.of_eq (congrArg (AV.int _) (by omega)) | exact Weak.of_eq (congrArg AV.bool (by fail)) | exact Weak.nils _ _ (.inr rfl), ?_⟩), .refl _, hm⟩
  clear hm; intro tk s hm; (conv => whnf)
  refine SCall.o 1 (fun hb => by exact each2_any w0 hL x hnq 98 23 (fun m => txt m.body) (fun m hq => of3_any w0 m (hx.queue m hq).1) _ bo b4 _ _ (kbo _ _ _ hm) (kb4 _ _ _ hm) hne hm.room (by omega)) rfl rfl fun tk1 σ1 hn1 => ?_
  (conv => whnf)
  have hm := hm.chain hn1
  clear hn1
  rw [rowsOf_b] at hm ⊢
  refine SIf.meet Ty.mixed (fun tk => [(1, .vp (eSub x)), (3, .ptr bo 0), (4, .ptr b4 0), (5, .fn (.func 21) [] [.vp (eSub x), .ptr b4 0])]) (fun tk => [(b4, [.fn (.func 19) [] [.ptr bo 0, .vp (eSub x)]]), (bo, [.slc 2 ((ack2 x ++ x.queue.map (b2 x.id) ++ note2 x).map eRow) tk])]) (fun tk s => Moves (τ.setBox bo [.slc 2 ((ack2 x ++ x.queue.map (b2 x.id) ++ note2 x).map eRow) tk]) .full s tk) (fun hc => ?_) (fun hc => ?_) ?_
  · have h0 : x.note ≠ [] := by rintro e; simp [e] at hc
    have e1 : note2 x = [⟨rkey 2 110 x.id 0, txt x.note⟩] := by rw [note2, if_neg h0]
    (conv => whnf); refine SReg.d [1, 0, 2, 3, 4, 5, 6] [1, 0, 1, 0, 0, 0, 2] (by decide +kernel) ?_; (conv => whnf); (conv => whnf); refine SLoad.on 0 rfl ?_; (conv => whnf); refine SCall.p (by exact form2_t (bs := txt x.note) w0 [.s _] ⟨hs4, trivial⟩ (Nat.le_of_ble_eq_true rfl) _ rfl) ?_; (conv => whnf)
    refine SCall.o 1 (fun hb => by exact lay2_any w0 hL x 110 _ _ _ _ bo _ _ (kbo _ _ _ hm) hm.room (by simp only [List.length_append, List.length_map]; omega)) rfl rfl fun tk1 σ1 hn1 => ?_
    (conv => whnf)
    have hm2 := hm.chain hn1
    rw [e1]
    exact ⟨_, by repeat (first | exact trivial | refine ⟨by first | trivial | exact Weak.refl _ | exact Weak.tok _ _ _ | exact Weak.of_eq (congrArg (AV.int _) (by omega)) | exact Weak.of_eq (congrArg AV.bool (by fail)) | exact Weak.nils _ _ (.inr rfl), ?_⟩), .refl _, hm2⟩
  · have h0 : x.note = [] := by simpa using hc
    have e1 : note2 x = [] := by rw [note2, if_pos h0]
    rw [e1, List.append_nil]
    (conv => whnf)
    exact ⟨_, by repeat (first | exact trivial | refine ⟨by first | trivial | exact Weak.refl _ | exact Weak.tok _ _ _ | exact Weak.of_eq (congrArg (AV.int _) (by omega)) | exact Weak.of_eq (congrArg AV.bool (by fail)) | exact Weak.nils _ _ (.inr rfl), ?_⟩), .refl _, hm⟩
  clear hm; intro tk s hm; (conv => whnf)
  refine SCall.o 1 (fun hb => by exact each2_any w0 hL x hnq 113 25 qB2 (fun m hq => of4_any w0 m (hx.queue m hq).2) _ bo b4 _ _ (kbo _ _ _ hm) (kb4 _ _ _ hm) hne hm.room (by simp only [List.length_append, List.length_map]; omega)) rfl rfl fun tk1 σ1 hn1 => ?_
  (conv => whnf)
  have hm := hm.chain hn1
  clear hn1
  rw [rowsOf_q] at hm ⊢
  refine SReg.d [1, 4, 7, 10, 13, 16, 0, 2, 3, 5, 6, 8, 9, 11, 12, 14, 15, 17, 18, 19, 20, 21] [1, 0, 1, 0, 0, 1, 0, 0, 1, 0, 0, 1, 0, 0, 1, 0, 0, 1, 0, 0, 0, 2] (by decide +kernel) ?_; (conv => whnf); (conv => whnf); refine SLoad.on 0 rfl ?_; (conv => whnf); refine SCall.p (by exact form2_t (bs := sB2 x) w0 [.s _, .s _, .s _, .n _, .n _, .n _] ⟨hs1, hs2, hs3, trivial⟩ (Nat.le_of_ble_eq_true rfl) _ rfl) ?_; (conv => whnf)
  refine SCall.o 1 (fun hb => by exact lay2_any w0 hL x 115 _ _ _ _ bo _ _ (kbo _ _ _ hm) hm.room (by simp only [List.length_append, List.length_map]; omega)) rfl rfl fun tk1 σ1 hn1 => ?_
  (conv => whnf)
  have hm := hm.chain hn1
  clear hn1
  refine SCall.o 1 (fun hb => by exact each2_any w0 hL x hnq 120 27 xN (fun m hq => of5_any w0 m) _ bo b4 _ _ (kbo _ _ _ hm) (kb4 _ _ _ hm) hne hm.room (by simp only [List.length_append, List.length_map, List.length_cons, List.length_nil]; omega)) rfl rfl fun tk1 σ1 hn1 => ?_
  (conv => whnf); refine SLoad.on 1 rfl ?_; (conv => whnf)
  have hm := hm.chain hn1
  clear hn1
  rw [rowsOf_x] at hm ⊢
  refine .v (.trans ?_ hm.le) (.tok ..); exact le_setBox hle hbo
end Go.Proofs.YtkbmkhhcppfcnaaGreatDoor
end
section
set_option linter.unusedVariables false
namespace Go.Proofs.YtkbmkhhcppfcnaaGreatDoor
open Go.Al
def n2 (v : List UInt8) (s : Nat × Bool) : Nat × Nat × Bool :=
  if s.2 = true ∨ (getNum v s.1).2.2 ≠ 0 then (0, s.1, true) else ((getNum v s.1).1, (getNum v s.1).2.1, false)
def t2 (v : List UInt8) (s : Nat × Bool) (most : Nat) : List UInt8 × Nat × Bool :=
  if s.2 = true ∨ (getText v s.1 most).2.2 ≠ 0 then ([], s.1, true) else ((getText v s.1 most).1, (getText v s.1 most).2.1, false)
def gp2 (v : List UInt8) : Nat → Nat × Bool → List Int → List Int × Nat × Bool
  | 0, s, acc => (acc, s)
  | n + 1, s, acc => if s.2 = true then (acc, s) else gp2 v n (n2 v s).2 (acc ++ [((n2 v s).1 : Int)])
def mB (v : List UInt8) (m : Msg) : Msg := { m with body := (t2 v (0, false) 60).1 }
def mQ (v : List UInt8) (m : Msg) : Msg :=
  let p1 := t2 v (0, false) 30
  let p2 := n2 v p1.2
  let p3 := n2 v p2.2
  let p4 := n2 v p3.2
  { m with attr := p1.1, tries := p2.1, until_ := p3.1, dead := decide ((p4.1 : Int) = 1) }
def mX (v : List UInt8) (m : Msg) : Msg :=
  let p1 := n2 v (0, false)
  let p2 := n2 v p1.2
  { m with prio := p1.1, why := whyN (min p2.1 2) }
def sS (v : List UInt8) (x : Sub) : Sub :=
  let p1 := t2 v (0, false) 30
  let p2 := t2 v p1.2 30
  let p3 := t2 v p2.2 30
  let p4 := n2 v p3.2
  let p5 := n2 v p4.2
  let p6 := n2 v p5.2
  { x with name := p1.1, topic := p2.1, want := p3.1, lease := p4.1, most := p5.1, floor := p6.1 }
def msg0 (seq : Int) : Msg := ⟨seq, [], [], 0, 0, false, [], 0⟩
def updF (seq : Int) (f : Msg → Msg) : List Msg → List Msg
  | [] => []
  | m :: l => if m.seq = seq then f m :: l else m :: updF seq f l
def add2 (x : Sub) (r : Row) : Sub :=
  let p := parts r.key
  let x := { x with id := p.id }
  if p.t = 97 then { x with acks := (gp2 r.val (n2 r.val (0, false)).1 (n2 r.val (0, false)).2 x.acks).1 }
  else if p.t = 98 then { x with queue := updF p.seq (mB r.val) (x.queue ++ [msg0 p.seq]) }
  else if p.t = 110 then { x with note := (t2 r.val (0, false) 30).1 }
  else if p.t = 113 then { x with queue := updF p.seq (mQ r.val) x.queue }
  else if p.t = 115 then sS r.val x
  else if p.t = 120 then { x with queue := updF p.seq (mX r.val) x.queue }
  else x
def rows2 (l : List Row) : Sub := l.foldl add2 sub0
def fin2 (l : List Row) : Sub := let x := rows2 l; { x with acks := runUp x.floor x.acks }
def dec2 (l : List Row) : Sub × Nat := if upTo l l.length = true ∧ enc2 (fin2 l) = l then (fin2 l, 0) else (sub0, 11)
theorem n2_far (v : List UInt8) (s : Nat × Bool) : (n2 v s).2.1 ≤ max s.1 v.length := by
  unfold n2
  split
  · exact Nat.le_max_left ..
  · have := (getNum_le v s.1).1
    simp only; omega
theorem t2_far (v : List UInt8) (s : Nat × Bool) (most : Nat) : (t2 v s most).2.1 ≤ max s.1 v.length := by
  unfold t2
  split
  · exact Nat.le_max_left ..
  · have := (getText_far v s.1 most).1
    simp only; omega
theorem t2_len (v : List UInt8) (s : Nat × Bool) (most : Nat) : (t2 v s most).1.length ≤ most := by
  unfold t2
  split
  · simp
  · exact (getText_far v s.1 most).2
theorem n2_max (v : List UInt8) (s : Nat × Bool) : (n2 v s).1 ≤ 9007199254740992 := by
  unfold n2
  split
  · simp
  · exact (getNum_le v s.1).2.1
end Go.Proofs.YtkbmkhhcppfcnaaGreatDoor
end
section
set_option linter.unusedVariables false
set_option linter.unusedSimpArgs false
set_option maxRecDepth 100000
set_option maxHeartbeats 1000000
namespace Go.Proofs.YtkbmkhhcppfcnaaGreatDoor
open Go.Al Go.RowKit
def rd2 (v : List UInt8) (s : Nat × Bool) : List AV := [.slc 1 (aBytes v) .no, .int .i64 (s.1 : Nat), .bool s.2]
theorem rnum2_any (w0 : World) (v : List UInt8) (a : Nat) (bad : Bool) (b : Nat) (σ : St) (hv : v.length ≤ 1000000) (ha : a ≤ 1000000) (hb : σ.box b = some (rd2 v (a, bad))) :
    CallW Tryz.prog w0 82 [.ptr b 0] σ (fun r s => r = .int .i64 ((n2 v (a, bad)).1 : Nat) ∧ s = σ.setBox b (rd2 v (n2 v (a, bad)).2)) := by
  refine CallW.x (B := [(b, rd2 v (a, bad))]) Ty.tok Ty.mixed Tryz.func82 rfl Tryz.ntmps82 rfl (by simp) (by decide +kernel) ⟨by simpa using hb, by simp⟩ ?_
  have hgn := getNum_any w0 v .no a (by omega) (by omega)
  have hn2 : n2 v (a, bad) = if bad = true ∨ (getNum v a).2.2 ≠ 0 then (0, a, true) else ((getNum v a).1, (getNum v a).2.1, false) := rfl
  generalize getNum v a = g at hgn hn2
  obtain ⟨n, k, e⟩ := g
  cases bad with
  | true =>
    rw [hn2, if_pos (.inl rfl)]
    (conv => whnf); refine SReg.d [0, 1, 2, 4, 5, 6, 3, 7, 8, 9, 10, 11, 12, 13, 14, 15] [0, 0, 0, 1, 0, 0, 0, 1, 0, 0, 0, 0, 0, 0, 0, 0] (by decide +kernel) ?_; (conv => whnf); (conv => whnf); refine SLoad.on 0 rfl ?_; (conv => whnf); refine SLoad.on 0 rfl ?_; (conv => whnf); refine SCall.p (by exact hgn) ?_; (conv => whnf); refine SLoad.on 0 rfl ?_; (conv => whnf); refine SCond.y (by exact rfl) ?_; (conv => whnf); refine SCond.y (by exact rfl) ?_; (conv => whnf)
    refine SPick.y (by exact rfl) ?_; (conv => whnf); refine SStore.on 0 rfl ?_; (conv => whnf); refine SLoad.on 0 rfl ?_; (conv => whnf); refine SIf.y Ty.mixed (by exact rfl) ?_; (conv => whnf); exact .p (.refl _) rfl
  | false =>
    by_cases he : e = 0
    · subst he
      rw [hn2, if_neg (by simp)]
      (conv => whnf); refine SReg.d [0, 1, 2, 4, 5, 6, 3, 7, 8, 9, 10, 11, 12, 13, 14, 15] [0, 0, 0, 1, 0, 0, 0, 1, 0, 0, 0, 0, 0, 0, 0, 0] (by decide +kernel) ?_; (conv => whnf); (conv => whnf); refine SLoad.on 0 rfl ?_; (conv => whnf); refine SLoad.on 0 rfl ?_; (conv => whnf); refine SCall.p (by exact hgn) ?_; (conv => whnf); refine SLoad.on 0 rfl ?_; (conv => whnf); refine SCond.n (by exact rfl) ?_; (conv => whnf); refine SCond.n (by exact rfl) ?_; (conv => whnf)
      refine SPick.n (by exact rfl) ?_; (conv => whnf); refine SStore.on 0 rfl ?_; (conv => whnf); refine SLoad.on 0 rfl ?_; (conv => whnf); refine SIf.n Ty.mixed (by exact rfl) ?_; (conv => whnf); refine SStore.on 0 rfl ?_; (conv => whnf)
      rw [setBox_setBox]
      exact .p (.refl _) rfl
    · have hd : (!decide ((e : Int) = 0)) = true := by simp [he]
      rw [hn2, if_pos (.inr he)]
      (conv => whnf); refine SReg.d [0, 1, 2, 4, 5, 6, 3, 7, 8, 9, 10, 11, 12, 13, 14, 15] [0, 0, 0, 1, 0, 0, 0, 1, 0, 0, 0, 0, 0, 0, 0, 0] (by decide +kernel) ?_; (conv => whnf); (conv => whnf); refine SLoad.on 0 rfl ?_; (conv => whnf); refine SLoad.on 0 rfl ?_; (conv => whnf); refine SCall.p (by exact hgn) ?_; (conv => whnf); refine SLoad.on 0 rfl ?_; (conv => whnf); refine SCond.n (by exact rfl) ?_; (conv => whnf); refine SCond.n (by exact rfl) ?_; (conv => whnf)
      refine SPick.n (by exact rfl) ?_; (conv => whnf); refine SStore.on 0 rfl ?_; (conv => whnf); refine SLoad.on 0 rfl ?_; (conv => whnf); refine SIf.y Ty.mixed (by assumption) ?_; (conv => whnf); refine .p ?_ rfl
      show St.Le (σ.setBox b [_, _, .bool true]) (σ.setBox b [_, _, .bool (!decide ((e : Int) = 0))])
      rw [hd]
      exact .refl _
theorem rtext2_any (w0 : World) (v : List UInt8) (a : Nat) (bad : Bool) (most : Nat) (b : Nat) (σ : St) (hv : v.length ≤ 1000000) (ha : a ≤ 1000000) (hm : most ≤ 1000) (hb : σ.box b = some (rd2 v (a, bad))) :
    CallW Tryz.prog w0 84 [.ptr b 0, .int .i64 most] σ (fun r s => r = .str (t2 v (a, bad) most).1 ∧ s = σ.setBox b (rd2 v (t2 v (a, bad) most).2)) := by
  refine CallW.x (B := [(b, rd2 v (a, bad))]) Ty.tok Ty.mixed Tryz.func84 rfl Tryz.ntmps84 rfl (by simp) (by decide +kernel) ⟨by simpa using hb, by simp⟩ ?_
  have hgn := getText_any w0 v .no a most (by omega) (by omega) (by omega)
  have hn2 : t2 v (a, bad) most = if bad = true ∨ (getText v a most).2.2 ≠ 0 then ([], a, true) else ((getText v a most).1, (getText v a most).2.1, false) := rfl
  generalize getText v a most = g at hgn hn2
  obtain ⟨n, k, e⟩ := g
  cases bad with
  | true =>
    rw [hn2, if_pos (.inl rfl)]
    (conv => whnf); refine SReg.d [0, 1, 2, 4, 5, 6, 8, 3, 7, 9, 10, 11, 12, 13, 14, 15, 16] [0, 0, 0, 1, 0, 0, 0, 1, 0, 0, 0, 0, 0, 0, 0, 0, 0] (by decide +kernel) ?_; (conv => whnf); (conv => whnf); refine SLoad.on 0 rfl ?_; (conv => whnf); refine SLoad.on 0 rfl ?_; (conv => whnf); refine SCall.p (by exact hgn) ?_; (conv => whnf); refine SLoad.on 0 rfl ?_; (conv => whnf); refine SCond.y (by exact rfl) ?_; (conv => whnf); refine SCond.y (by exact rfl) ?_; (conv => whnf)
    refine SPick.y (by exact rfl) ?_; (conv => whnf); refine SStore.on 0 rfl ?_; (conv => whnf); refine SLoad.on 0 rfl ?_; (conv => whnf); refine SIf.y Ty.mixed (by exact rfl) ?_; (conv => whnf); exact .p (.refl _) rfl
  | false =>
    by_cases he : e = 0
    · subst he
      rw [hn2, if_neg (by simp)]
      (conv => whnf); refine SReg.d [0, 1, 2, 4, 5, 6, 8, 3, 7, 9, 10, 11, 12, 13, 14, 15, 16] [0, 0, 0, 1, 0, 0, 0, 1, 0, 0, 0, 0, 0, 0, 0, 0, 0] (by decide +kernel) ?_; (conv => whnf); (conv => whnf); refine SLoad.on 0 rfl ?_; (conv => whnf); refine SLoad.on 0 rfl ?_; (conv => whnf); refine SCall.p (by exact hgn) ?_; (conv => whnf); refine SLoad.on 0 rfl ?_; (conv => whnf); refine SCond.n (by exact rfl) ?_; (conv => whnf); refine SCond.n (by exact rfl) ?_; (conv => whnf)
      refine SPick.n (by exact rfl) ?_; (conv => whnf); refine SStore.on 0 rfl ?_; (conv => whnf); refine SLoad.on 0 rfl ?_; (conv => whnf); refine SIf.n Ty.mixed (by exact rfl) ?_; (conv => whnf); refine SStore.on 0 rfl ?_; (conv => whnf)
      rw [setBox_setBox]
      exact .p (.refl _) rfl
    · have hd : (!decide ((e : Int) = 0)) = true := by simp [he]
      rw [hn2, if_pos (.inr he)]
      (conv => whnf); refine SReg.d [0, 1, 2, 4, 5, 6, 8, 3, 7, 9, 10, 11, 12, 13, 14, 15, 16] [0, 0, 0, 1, 0, 0, 0, 1, 0, 0, 0, 0, 0, 0, 0, 0, 0] (by decide +kernel) ?_; (conv => whnf); (conv => whnf); refine SLoad.on 0 rfl ?_; (conv => whnf); refine SLoad.on 0 rfl ?_; (conv => whnf); refine SCall.p (by exact hgn) ?_; (conv => whnf); refine SLoad.on 0 rfl ?_; (conv => whnf); refine SCond.n (by exact rfl) ?_; (conv => whnf); refine SCond.n (by exact rfl) ?_; (conv => whnf)
      refine SPick.n (by exact rfl) ?_; (conv => whnf); refine SStore.on 0 rfl ?_; (conv => whnf); refine SLoad.on 0 rfl ?_; (conv => whnf); refine SIf.y Ty.mixed (by assumption) ?_; (conv => whnf); refine .p ?_ rfl
      show St.Le (σ.setBox b [_, _, .bool true]) (σ.setBox b [_, _, .bool (!decide ((e : Int) = 0))])
      rw [hd]
      exact .refl _
end Go.Proofs.YtkbmkhhcppfcnaaGreatDoor
end
section
set_option linter.unusedVariables false
set_option linter.unusedSimpArgs false
set_option maxRecDepth 100000
set_option maxHeartbeats 1000000
namespace Go.Proofs.YtkbmkhhcppfcnaaGreatDoor
open Go.Al Go.RowKit
theorem rnum2_s (w0 : World) (v : List UInt8) (s : Nat × Bool) (b : Nat) (σ : St) (hv : v.length ≤ 1000000) (ha : s.1 ≤ 1000000) (hb : σ.box b = some (rd2 v s)) :
    CallW Tryz.prog w0 82 [.ptr b 0] σ (fun r s' => r = .int .i64 ((n2 v s).1 : Nat) ∧ s' = σ.setBox b (rd2 v (n2 v s).2)) := rnum2_any w0 v s.1 s.2 b σ hv ha hb
theorem rtext2_s (w0 : World) (v : List UInt8) (s : Nat × Bool) (most : Nat) (b : Nat) (σ : St) (hv : v.length ≤ 1000000) (ha : s.1 ≤ 1000000) (hm : most ≤ 1000) (hb : σ.box b = some (rd2 v s)) :
    CallW Tryz.prog w0 84 [.ptr b 0, .int .i64 most] σ (fun r s' => r = .str (t2 v s most).1 ∧ s' = σ.setBox b (rd2 v (t2 v s most).2)) := rtext2_any w0 v s.1 s.2 most b σ hv ha hm hb
def mc (m : Msg) : List AV := [.int .i64 m.seq, .str m.body, .str m.attr, .int .i64 m.tries, .int .i64 m.until_, .bool m.dead, .str m.why, .int .i64 m.prio]
theorem two_boxes {σ : St} {a b : Nat} {xs ys : List AV} (hne : a ≠ b) : ((σ.setBox a xs).setBox b ys).box a = some xs := by rw [setBox_ne hne]; exact setBox_same
def MsgW (w0 : World) (f : FuncId) (g : List UInt8 → Msg → Msg) : Prop := ∀ (v : List UInt8) (m : Msg) (bx bm br : Nat) (pre post : List AV) (σ : St), v.length ≤ 1000000 → σ.box bm = some (pre ++ mc m ++ post) → σ.box br = some (rd2 v (0, false)) → bm ≠ br →
  CallW Tryz.prog w0 f [.ptr bx 0, .ptr bm pre.length, .ptr br 0] σ (fun r s => r = .tup [] ∧ ∃ s', s = (σ.setBox br (rd2 v s')).setBox bm (pre ++ mc (g v m) ++ post))
theorem tB_any (w0 : World) : MsgW w0 83 mB := by
  intro v m bx bm br pre post σ hv hm hr hne
  refine CallW.x (B := [(br, rd2 v (0, false)), (bm, pre ++ mc m ++ post)]) Ty.tok Ty.mixed Tryz.func83 rfl Tryz.ntmps83 rfl (by simp) (by decide +kernel) ⟨by simp [hr, hm], by simp [Ne.symm hne]⟩ ?_
  (conv => whnf); refine SCall.b 0 (fun hb => by exact rtext2_s w0 v _ 60 br _ hv (Nat.zero_le _) (by decide) hb) rfl rfl ?_; (conv => whnf); refine SStore.mid 1 _ rfl rfl (Nat.le_of_ble_eq_true rfl) ?_; (conv => whnf); exact .w ⟨rfl, _, rfl⟩
theorem tQ_any (w0 : World) : MsgW w0 86 mQ := by
  intro v m bx bm br pre post σ hv hm hr hne
  refine CallW.x (B := [(br, rd2 v (0, false)), (bm, pre ++ mc m ++ post)]) Ty.tok Ty.mixed Tryz.func86 rfl Tryz.ntmps86 rfl (by simp) (by decide +kernel) ⟨by simp [hr, hm], by simp [Ne.symm hne]⟩ ?_
  have f1 := t2_far v (0, false) 30
  have f2 := n2_far v (t2 v (0, false) 30).2
  have f3 := n2_far v (n2 v (t2 v (0, false) 30).2).2
  (conv => whnf); refine SCall.b 0 (fun hb => by first | exact rtext2_s w0 v _ 30 br _ hv (Nat.zero_le _) (by decide) hb | exact rnum2_s w0 v _ br _ hv (by omega) hb) rfl rfl ?_; (conv => whnf); refine SCall.b 0 (fun hb => by first | exact rtext2_s w0 v _ 30 br _ hv (Nat.zero_le _) (by decide) hb | exact rnum2_s w0 v _ br _ hv (by omega) hb) rfl rfl ?_; (conv => whnf)
  refine SCall.b 0 (fun hb => by first | exact rtext2_s w0 v _ 30 br _ hv (Nat.zero_le _) (by decide) hb | exact rnum2_s w0 v _ br _ hv (by omega) hb) rfl rfl ?_; (conv => whnf); refine SStore.mid 1 _ rfl rfl (Nat.le_of_ble_eq_true rfl) ?_; (conv => whnf); refine SStore.mid 1 _ rfl rfl (Nat.le_of_ble_eq_true rfl) ?_; (conv => whnf); refine SStore.mid 1 _ rfl rfl (Nat.le_of_ble_eq_true rfl) ?_
  (conv => whnf); refine SCall.b 0 (fun hb => by first | exact rtext2_s w0 v _ 30 br _ hv (Nat.zero_le _) (by decide) hb | exact rnum2_s w0 v _ br _ hv (by omega) hb) rfl rfl ?_; (conv => whnf); refine SStore.mid 1 _ rfl rfl (Nat.le_of_ble_eq_true rfl) ?_; (conv => whnf)
  have sc : ∀ (s : St) X Y, (s.setBox bm Y).setBox br X = (s.setBox br X).setBox bm Y := fun s X Y => setBox_comm hne
  simp only [setBox_setBox, sc]
  exact .w ⟨rfl, _, rfl⟩
theorem tX_any (w0 : World) : MsgW w0 88 mX := by
  intro v m bx bm br pre post σ hv hm hr hne
  refine CallW.x (B := [(br, rd2 v (0, false)), (bm, pre ++ mc m ++ post)]) Ty.tok Ty.mixed Tryz.func88 rfl Tryz.ntmps88 rfl (by simp) (by decide +kernel) ⟨by simp [hr, hm], by simp [Ne.symm hne]⟩ ?_
  have f1 := n2_far v (0, false)
  have hw : ∀ n : Nat, ([AV.str [], .str [110, 97, 99, 107], .str [116, 105, 109, 101]] : List AV)[(min (n : Int) 2).toNat]? = some (.str (whyN (min n 2))) := by
    intro n
    by_cases h0 : n = 0
    · subst h0; rfl
    · by_cases h1 : n = 1
      · subst h1; rfl
      · have : (min (n : Int) 2).toNat = 2 := by omega
        have h2 : min n 2 = 2 := by omega
        rw [this, h2]; rfl
  (conv => whnf); refine SCall.b 0 (fun hb => by exact rnum2_s w0 v _ br _ hv (by first | exact Nat.zero_le _ | omega) hb) rfl rfl ?_; (conv => whnf); refine SStore.mid 1 _ rfl rfl (Nat.le_of_ble_eq_true rfl) ?_; (conv => whnf); refine SCall.p (by exact deaths2_any w0) ?_; (conv => whnf)
  refine SCall.b 0 (fun hb => by exact rnum2_s w0 v _ br _ hv (by first | exact Nat.zero_le _ | omega) hb) rfl rfl ?_; (conv => whnf)
  refine ⟨_, ⟨by first | omega | (simp only [List.length_cons, List.length_append, List.length_nil, List.length_map, length_aBytes, List.length_replicate, List.length_range]; omega) | fail, by exact hw _⟩, ?_⟩
  (conv => whnf); refine SStore.mid 1 _ rfl rfl (Nat.le_of_ble_eq_true rfl) ?_; (conv => whnf)
  have sc : ∀ (s : St) X Y, (s.setBox bm Y).setBox br X = (s.setBox br X).setBox bm Y := fun s X Y => setBox_comm hne
  simp only [setBox_setBox, sc]
  exact .w ⟨rfl, _, rfl⟩
def xc (x : Sub) (ac qv : AV) : List AV := [.int .i64 x.id, .str x.name, .str x.topic, .str x.want, .int .i64 x.lease, .int .i64 x.most, .int .i64 x.floor, ac, qv, .str x.note]
theorem tN_any (w0 : World) (v : List UInt8) (x : Sub) (ac qv : AV) (bx br bm o : Nat) (σ : St) (hv : v.length ≤ 1000000) (hx : σ.box bx = some (xc x ac qv)) (hr : σ.box br = some (rd2 v (0, false))) (hne : bx ≠ br) :
    CallW Tryz.prog w0 85 [.ptr bx 0, .ptr bm o, .ptr br 0] σ (fun r s => r = .tup [] ∧ ∃ s', s = (σ.setBox br (rd2 v s')).setBox bx (xc { x with note := (t2 v (0, false) 30).1 } ac qv)) := by
  refine CallW.x (B := [(br, rd2 v (0, false)), (bx, xc x ac qv)]) Ty.tok Ty.mixed Tryz.func85 rfl Tryz.ntmps85 rfl (by simp) (by decide +kernel) ⟨by simp [hr, hx], by simp [Ne.symm hne]⟩ ?_
  (conv => whnf); refine SCall.b 0 (fun hb => by exact rtext2_s w0 v _ 30 br _ hv (Nat.zero_le _) (by decide) hb) rfl rfl ?_; (conv => whnf); refine SStore.on 1 rfl ?_; (conv => whnf); exact .w ⟨rfl, _, rfl⟩
theorem tS_any (w0 : World) (v : List UInt8) (x : Sub) (ac qv : AV) (bx br bm o : Nat) (σ : St) (hv : v.length ≤ 1000000) (hx : σ.box bx = some (xc x ac qv)) (hr : σ.box br = some (rd2 v (0, false))) (hne : bx ≠ br) :
    CallW Tryz.prog w0 87 [.ptr bx 0, .ptr bm o, .ptr br 0] σ (fun r s => r = .tup [] ∧ ∃ s', s = (σ.setBox br (rd2 v s')).setBox bx (xc (sS v x) ac qv)) := by
  refine CallW.x (B := [(br, rd2 v (0, false)), (bx, xc x ac qv)]) Ty.tok Ty.mixed Tryz.func87 rfl Tryz.ntmps87 rfl (by simp) (by decide +kernel) ⟨by simp [hr, hx], by simp [Ne.symm hne]⟩ ?_
  have f1 := t2_far v (0, false) 30
  have f2 := t2_far v (t2 v (0, false) 30).2 30
  have f3 := t2_far v (t2 v (t2 v (0, false) 30).2 30).2 30
  have f4 := n2_far v (t2 v (t2 v (t2 v (0, false) 30).2 30).2 30).2
  have f5 := n2_far v (n2 v (t2 v (t2 v (t2 v (0, false) 30).2 30).2 30).2).2
  (conv => whnf); refine SCall.b 0 (fun hb => by first | exact rtext2_s w0 v _ 30 br _ hv (by first | exact Nat.zero_le _ | omega) (by decide) hb | exact rnum2_s w0 v _ br _ hv (by omega) hb) rfl rfl ?_; (conv => whnf)
  refine SCall.b 0 (fun hb => by first | exact rtext2_s w0 v _ 30 br _ hv (by first | exact Nat.zero_le _ | omega) (by decide) hb | exact rnum2_s w0 v _ br _ hv (by omega) hb) rfl rfl ?_; (conv => whnf); refine SCall.b 0 (fun hb => by first | exact rtext2_s w0 v _ 30 br _ hv (by first | exact Nat.zero_le _ | omega) (by decide) hb | exact rnum2_s w0 v _ br _ hv (by omega) hb) rfl rfl ?_
  (conv => whnf); refine SStore.on 1 rfl ?_; (conv => whnf); refine SStore.on 1 rfl ?_; (conv => whnf); refine SStore.on 1 rfl ?_; (conv => whnf); refine SCall.b 0 (fun hb => by first | exact rtext2_s w0 v _ 30 br _ hv (by first | exact Nat.zero_le _ | omega) (by decide) hb | exact rnum2_s w0 v _ br _ hv (by omega) hb) rfl rfl ?_; (conv => whnf)
  refine SCall.b 0 (fun hb => by first | exact rtext2_s w0 v _ 30 br _ hv (by first | exact Nat.zero_le _ | omega) (by decide) hb | exact rnum2_s w0 v _ br _ hv (by omega) hb) rfl rfl ?_; (conv => whnf); refine SCall.b 0 (fun hb => by first | exact rtext2_s w0 v _ 30 br _ hv (by first | exact Nat.zero_le _ | omega) (by decide) hb | exact rnum2_s w0 v _ br _ hv (by omega) hb) rfl rfl ?_
  (conv => whnf); refine SStore.on 1 rfl ?_; (conv => whnf); refine SStore.on 1 rfl ?_; (conv => whnf); refine SStore.on 1 rfl ?_; (conv => whnf)
  have sc : ∀ (s : St) X Y, (s.setBox bx Y).setBox br X = (s.setBox br X).setBox bx Y := fun s X Y => setBox_comm hne
  simp only [setBox_setBox, sc]
  exact .w ⟨rfl, _, rfl⟩
end Go.Proofs.YtkbmkhhcppfcnaaGreatDoor
end
section
set_option linter.unusedVariables false
set_option linter.unusedSimpArgs false
set_option maxRecDepth 100000
set_option maxHeartbeats 1000000
namespace Go.Proofs.YtkbmkhhcppfcnaaGreatDoor
open Go.Al Go.RowKit
structure XAt (τ σ : St) (bx : Nat) (x : Sub) (ac qv : AV) (ra rq : Option Nat) : Prop where
  le : St.Le τ σ
  hbx : σ.box bx = some (xc x ac qv)
  bxn : τ.box bx = none
  a : RowV σ 1 (x.acks.map (AV.int .i64)) ac ra
  q : RowV σ 8 (x.queue.map eMsg) qv rq
  an : ∀ b, ra = some b → τ.box b = none ∧ b ≠ bx
  qn : ∀ b, rq = some b → τ.box b = none ∧ b ≠ bx
  aq : ∀ b, ra = some b → rq ≠ some b
theorem XAt.ra_ne {τ σ : St} {bx : Nat} {x : Sub} {ac qv : AV} {ra rq : Option Nat} (h : XAt τ σ bx x ac qv ra rq) {c : Nat} (hc : σ.box c = none) : ra ≠ some c := by
  intro e; subst e; exact RowV.has h.a hc
theorem XAt.rq_ne {τ σ : St} {bx : Nat} {x : Sub} {ac qv : AV} {ra rq : Option Nat} (h : XAt τ σ bx x ac qv ra rq) {c : Nat} (hc : σ.box c = none) : rq ≠ some c := by
  intro e; subst e; exact RowV.has h.q hc
theorem XAt.other {τ σ : St} {bx : Nat} {x : Sub} {ac qv : AV} {ra rq : Option Nat} (h : XAt τ σ bx x ac qv ra rq) {c : Nat} (hc : τ.box c = none) (h1 : c ≠ bx) (h2 : ra ≠ some c) (h3 : rq ≠ some c) (ds : List AV) : XAt τ (σ.setBox c ds) bx x ac qv ra rq :=
  ⟨le_setBox h.le hc, by rw [setBox_ne (Ne.symm h1)]; exact h.hbx, h.bxn, h.a.set h2, h.q.set h3, h.an, h.qn, h.aq⟩
theorem XAt.own {τ σ : St} {bx : Nat} {x : Sub} {ac qv : AV} {ra rq : Option Nat} (h : XAt τ σ bx x ac qv ra rq) (y : Sub) (ha : y.acks = x.acks) (hq : y.queue = x.queue) : XAt τ (σ.setBox bx (xc y ac qv)) bx y ac qv ra rq :=
  ⟨le_setBox h.le h.bxn, setBox_same, h.bxn, by rw [ha]; exact h.a.set (fun e => (h.an _ e).2 rfl), by rw [hq]; exact h.q.set (fun e => (h.qn _ e).2 rfl), h.an, h.qn, h.aq⟩
theorem XAt.grow {τ σ : St} {bx : Nat} {x : Sub} {ac qv : AV} {ra rq : Option Nat} (h : XAt τ σ bx x ac qv ra rq) {c : Nat} (hc : σ.box c = none) (ds : List AV) : XAt (τ.setBox c ds) (σ.setBox c ds) bx x ac qv ra rq := by
  have hbx : bx ≠ c := by rintro rfl; rw [h.hbx] at hc; cases hc
  have hn : ∀ b, b ≠ c → τ.box b = none → (τ.setBox c ds).box b = none := fun b hb e => by rw [setBox_ne hb]; exact e
  refine ⟨⟨fun i cs e => ?_, fun p e => h.le.tok p e⟩, by rw [setBox_ne hbx]; exact h.hbx, hn _ hbx h.bxn, h.a.set (h.ra_ne hc), h.q.set (h.rq_ne hc), fun b e => ⟨hn b (fun e2 => h.ra_ne hc (by rw [e, e2])) (h.an b e).1, (h.an b e).2⟩, fun b e => ⟨hn b (fun e2 => h.rq_ne hc (by rw [e, e2])) (h.qn b e).1, (h.qn b e).2⟩, h.aq⟩
  by_cases hi : i = c
  · subst hi; rw [setBox_same] at e ⊢; exact e
  · rw [setBox_ne hi] at e ⊢; exact h.le.box i cs e
theorem XAt.less {τ τ' σ : St} {bx : Nat} {x : Sub} {ac qv : AV} {ra rq : Option Nat} (h : XAt τ σ bx x ac qv ra rq) (hl : St.Le τ' τ) : XAt τ' σ bx x ac qv ra rq :=
  ⟨hl.trans h.le, h.hbx, le_none hl h.bxn, h.a, h.q, fun b e => ⟨le_none hl (h.an b e).1, (h.an b e).2⟩, fun b e => ⟨le_none hl (h.qn b e).1, (h.qn b e).2⟩, h.aq⟩
theorem ints_sz (l : List Int) : ∀ x ∈ l.map (AV.int .i64), x.cells.length = 1 := fun x hx => by
  obtain ⟨n, _, rfl⟩ := List.mem_map.1 hx; rfl
theorem msgs_sz (l : List Msg) : ∀ x ∈ l.map eMsg, x.cells.length = 8 := fun x hx => by
  obtain ⟨n, _, rfl⟩ := List.mem_map.1 hx; rfl
theorem g2_stop (v : List UInt8) (n : Nat) (s : Nat × Bool) (acc : List Int) (h : s.2 = true) : gp2 v n s acc = (acc, s) := by
  cases n with
  | zero => rfl
  | succ n => rw [gp2, if_pos h]
theorem n2_gt (v : List UInt8) (s : Nat × Bool) (h : (n2 v s).2.2 = false) : s.1 < (n2 v s).2.1 := by
  unfold n2 at h ⊢
  split at h
  · cases h
  · rename_i hc
    rw [if_neg hc]
    exact getNum_gt v s.1 (by simp at hc; exact hc.2)
theorem XAt.appA {τ st σ' : St} {bx br : Nat} {x : Sub} {ac qv : AV} {ra rq : Option Nat} {rs : List AV} (h : XAt τ st bx x ac qv ra rq) (hrn : τ.box br = none) (hbr : br ≠ bx) (h1 : ra ≠ some br) (h2 : rq ≠ some br) {n : Int} {b' cap' : Nat}
    (hR : RowV σ' 1 (x.acks.map (AV.int .i64) ++ [.int .i64 n]) (.msl b' 0 ((x.acks.map (AV.int .i64)).length + 1) cap') (some b')) (hf : ra = some b' ∨ (st.setBox br rs).box b' = none) (hk : ∀ i cs, ra ≠ some i → (st.setBox br rs).box i = some cs → σ'.box i = some cs) (ht : σ'.tok = (st.setBox br rs).tok) :
    XAt τ (σ'.setBox bx (xc { x with acks := x.acks ++ [n] } (.msl b' 0 ((x.acks.map (AV.int .i64)).length + 1) cap') qv)) bx { x with acks := x.acks ++ [n] } (.msl b' 0 ((x.acks.map (AV.int .i64)).length + 1) cap') qv (some b') rq ∧ some b' ≠ some br := by
  have hb : τ.box b' = none ∧ b' ≠ bx ∧ rq ≠ some b' ∧ b' ≠ br := by
    rcases hf with hf | hf
    · exact ⟨(h.an _ hf).1, (h.an _ hf).2, h.aq _ hf, fun e => h1 (by rw [hf, e])⟩
    · have hne : b' ≠ br := by rintro rfl; rw [setBox_same] at hf; cases hf
      rw [setBox_ne hne] at hf
      exact ⟨le_none h.le hf, fun e => (by subst e; rw [h.hbx] at hf; cases hf), h.rq_ne hf, hne⟩
  obtain ⟨hb1, hb2, hb3, hb4⟩ := hb
  refine ⟨⟨le_setBox ⟨fun i cs e => hk i cs (fun e2 => ?_) ?_, fun p e => by rw [ht]; exact h.le.tok p e⟩ h.bxn, setBox_same, h.bxn, ?_, ?_, fun b e => ?_, h.qn, fun b e => ?_⟩, fun e => hb4 (Option.some.inj e)⟩
  · have := (h.an _ e2).1
    rw [e] at this; cases this
  · rw [setBox_ne (fun e2 => by subst e2; rw [hrn] at e; cases e)]; exact h.le.box i cs e
  · have e1 : ({ x with acks := x.acks ++ [n] } : Sub).acks.map (AV.int .i64) = x.acks.map (AV.int .i64) ++ [.int .i64 n] := by simp
    rw [e1]
    exact hR.set (fun e => hb2 (Option.some.inj e))
  · refine ((h.q.set (c := br) (ds := rs) h2).keep fun b cs e hbb => hk b cs (fun e2 => h.aq _ e2 e) hbb).set fun e => (h.qn _ e).2 rfl
  · cases e; exact ⟨hb1, hb2⟩
  · cases e; exact hb3
theorem XAt.appQ {τ st σ' : St} {bx : Nat} {x : Sub} {ac qv : AV} {ra rq : Option Nat} (h : XAt τ st bx x ac qv ra rq) {m : Msg} {b' n' cap' : Nat}
    (hR : RowV σ' 8 (x.queue.map eMsg ++ [eMsg m]) (.msl b' 0 n' cap') (some b')) (hf : rq = some b' ∨ st.box b' = none) (hk : ∀ i cs, rq ≠ some i → st.box i = some cs → σ'.box i = some cs) (ht : σ'.tok = st.tok) :
    XAt τ (σ'.setBox bx (xc { x with queue := x.queue ++ [m] } ac (.msl b' 0 n' cap'))) bx { x with queue := x.queue ++ [m] } ac (.msl b' 0 n' cap') ra (some b') := by
  have hb : τ.box b' = none ∧ b' ≠ bx ∧ ra ≠ some b' := by
    rcases hf with hf | hf
    · exact ⟨(h.qn _ hf).1, (h.qn _ hf).2, fun e => h.aq _ e hf⟩
    · exact ⟨le_none h.le hf, fun e => (by subst e; rw [h.hbx] at hf; cases hf), h.ra_ne hf⟩
  obtain ⟨hb1, hb2, hb3⟩ := hb
  refine ⟨le_setBox ⟨fun i cs e => hk i cs (fun e2 => ?_) (h.le.box i cs e), fun p e => by rw [ht]; exact h.le.tok p e⟩ h.bxn, setBox_same, h.bxn, ?_, ?_, h.an, fun b e => ?_, fun b e e2 => ?_⟩
  · have := (h.qn _ e2).1
    rw [e] at this; cases this
  · exact (h.a.keep fun b cs e hbb => hk b cs (fun e2 => h.aq _ e e2) hbb).set fun e => (h.an _ e).2 rfl
  · have e1 : ({ x with queue := x.queue ++ [m] } : Sub).queue.map eMsg = x.queue.map eMsg ++ [eMsg m] := by simp
    rw [e1]
    exact hR.set (fun e => hb2 (Option.some.inj e))
  · cases e; exact ⟨hb1, hb2⟩
  · cases e2; exact hb3 e
theorem tA_any (w0 : World) (v : List UInt8) (x : Sub) (ac qv : AV) (ra rq : Option Nat) (τ : St) (bx br bm o : Nat) (σ : St) (hv : v.length ≤ 1000000) (hn : x.acks.length ≤ 1000000) (hx : XAt τ σ bx x ac qv ra rq) (hr : σ.box br = some (rd2 v (0, false))) (hrn : τ.box br = none) (hbr : br ≠ bx) (h1 : ra ≠ some br) (h2 : rq ≠ some br) :
    CallW Tryz.prog w0 81 [.ptr bx 0, .ptr bm o, .ptr br 0] σ (fun r s => r = .tup [] ∧ ∃ ac' ra', XAt τ s bx { x with acks := (gp2 v (n2 v (0, false)).1 (n2 v (0, false)).2 x.acks).1 } ac' qv ra' rq) := by
  refine CallW.x (B := [(br, rd2 v (0, false)), (bx, xc x ac qv)]) Ty.tok Ty.mixed Tryz.func81 rfl Tryz.ntmps81 rfl (by simp) (by decide +kernel) ⟨by simp [hr, hx.hbx], by simp [hbr]⟩ ?_
  have f1 := n2_far v (0, false)
  have f2 := n2_max v (0, false)
  conv => whnf
  repeat' (((first | refine SIf.y Ty.mixed (by first | exact rfl | assumption | fail) ?_ | refine SIf.n Ty.mixed (by first | exact rfl | assumption | fail) ?_ | refine SCond.y (by first | exact rfl | assumption | fail) ?_ | refine SCond.n (by first | exact rfl | assumption | fail) ?_ | refine SPick.y (by first | exact rfl | assumption | fail) ?_ | refine SPick.n (by first | exact rfl | assumption | fail) ?_ | refine SPick.b ?_ | refine SPick.i ?_ | refine SCall.b 0 (fun hb => by exact rnum2_s w0 v _ br _ hv (by first | exact Nat.zero_le _ | omega) hb) rfl rfl ?_ | refine SCall.b 1 (fun hb => by exact rnum2_s w0 v _ br _ hv (by first | exact Nat.zero_le _ | omega) hb) rfl rfl ?_ | refine SCall.b 2 (fun hb => by exact rnum2_s w0 v _ br _ hv (by first | exact Nat.zero_le _ | omega) hb) rfl rfl ?_ | refine SCall.b 3 (fun hb => by exact rnum2_s w0 v _ br _ hv (by first | exact Nat.zero_le _ | omega) hb) rfl rfl ?_ | refine SLoad.on 0 rfl ?_ | refine SLoad.on 1 rfl ?_ | refine SLoad.on 2 rfl ?_ | refine SLoad.on 3 rfl ?_ | refine SLoad.on 4 rfl ?_ | refine SLoad.on 5 rfl ?_ | refine SStore.on 0 rfl ?_ | refine SStore.on 1 rfl ?_ | refine SStore.on 2 rfl ?_ | refine SStore.on 3 rfl ?_ | refine SStore.on 4 rfl ?_ | refine SStore.on 5 rfl ?_ | refine SBox.f ?_ | refine SCall.p (by fail) ?_ | fail | refine SApp.c rfl rfl (by first | assumption | exact Moves.more (by assumption) (by assumption) | fail) (by first | (simp only [length_aBytes, List.length_append, List.length_cons, List.length_nil, List.length_map, List.length_range]; omega) | omega | fail) fun tk1 σ1 hm => ?_ | refine SReg.t 0 [] (by decide +kernel) ?_ | refine And.intro (by first | omega | (simp only [List.length_cons, List.length_append, List.length_nil, List.length_map, length_aBytes, List.length_replicate, List.length_range]; omega) | fail) ?_ | refine ⟨_, ⟨by first | omega | (simp only [List.length_cons, List.length_append, List.length_nil, List.length_map, length_aBytes, List.length_replicate, List.length_range]; omega) | fail, by first | assumption | exact get_map (by assumption) | exact get_bytes (by assumption) | fail⟩, ?_⟩ | refine ⟨_, toBytes_aBytes _, ?_⟩ | refine ⟨_, by repeat (first | exact toB_nil | apply toB_cons | apply toB_consC _ (by first | omega | (simp only [List.length_cons, List.length_append, List.length_nil, List.length_map, length_aBytes, List.length_replicate, List.length_range]; omega) | fail)), ?_⟩ | refine ⟨_, IntWalk.i64_in _ (by first | omega | (simp only [List.length_cons, List.length_append, List.length_nil, List.length_map, length_aBytes, List.length_replicate, List.length_range]; omega) | fail), ?_⟩ | refine ⟨_, wrap_u8 _, ?_⟩ | refine ⟨_, rfl, ?_⟩ | refine ⟨true, fun b1 hb1 => ?_⟩ | intro b1 hb1 | fail); conv => whnf))
  refine SLoop.by2 Ty.mixed (fun (a : Nat × (Nat × Bool) × List Int × AV × Option Nat) => a.1) (fun (n, s, acc, av, r) => [(0, .ptr bx 0), (2, .ptr br 0), (6, .int .i64 n)]) (fun (n, s, acc, av, r) => [(br, rd2 v s), (bx, xc { x with acks := acc } av qv)])
    (fun (n, s, acc, av, r) st => n ≤ 9007199254740992 ∧ s.1 ≤ v.length ∧ (s.2 = false → acc.length ≤ x.acks.length + s.1) ∧ acc.length ≤ x.acks.length + v.length + 1 ∧ gp2 v (n2 v (0, false)).1 (n2 v (0, false)).2 x.acks = gp2 v n s acc ∧ XAt τ st bx { x with acks := acc } av qv r rq ∧ r ≠ some br)
    ((n2 v (0, false)).1, (n2 v (0, false)).2, x.acks, ac, ra) ⟨by repeat (first | exact trivial | refine ⟨by first | trivial | exact Weak.refl _ | exact Weak.tok _ _ _ | exact Weak.of_eq (congrArg (AV.int _) (by omega)) | exact Weak.of_eq (congrArg AV.bool (by fail)) | exact Weak.nils _ _ (.inr rfl), ?_⟩), .refl _, f2, by omega, fun _ => by omega, by omega, rfl, hx.other hrn hbr h1 h2 _, h1⟩ ?_
  rintro ⟨n, s, acc, av, r⟩ st ⟨hn1, hs1, hac0, hac, hg, hxa, hrr⟩ hK
  obtain ⟨a, bad⟩ := s
  refine ⟨_, hK, ?_⟩
  by_cases hn0 : n = 0
  · subst hn0
    have d0 : decide ((0 : Int) < ((0 : Nat) : Int)) = false := rfl
    conv => whnf
    repeat' (((first | refine SIf.y Ty.mixed (by first | exact rfl | assumption | fail) ?_ | refine SIf.n Ty.mixed (by first | exact rfl | assumption | fail) ?_ | refine SCond.y (by first | exact rfl | assumption | fail) ?_ | refine SCond.n (by first | exact rfl | assumption | fail) ?_ | refine SPick.y (by first | exact rfl | assumption | fail) ?_ | refine SPick.n (by first | exact rfl | assumption | fail) ?_ | refine SPick.b ?_ | refine SPick.i ?_ | refine SCall.b 0 (fun hb => by exact rnum2_s w0 v _ br _ hv (by first | exact Nat.zero_le _ | omega) hb) rfl rfl ?_ | refine SCall.b 1 (fun hb => by exact rnum2_s w0 v _ br _ hv (by first | exact Nat.zero_le _ | omega) hb) rfl rfl ?_ | refine SCall.b 2 (fun hb => by exact rnum2_s w0 v _ br _ hv (by first | exact Nat.zero_le _ | omega) hb) rfl rfl ?_ | refine SCall.b 3 (fun hb => by exact rnum2_s w0 v _ br _ hv (by first | exact Nat.zero_le _ | omega) hb) rfl rfl ?_ | refine SLoad.on 0 rfl ?_ | refine SLoad.on 1 rfl ?_ | refine SLoad.on 2 rfl ?_ | refine SLoad.on 3 rfl ?_ | refine SLoad.on 4 rfl ?_ | refine SLoad.on 5 rfl ?_ | refine SStore.on 0 rfl ?_ | refine SStore.on 1 rfl ?_ | refine SStore.on 2 rfl ?_ | refine SStore.on 3 rfl ?_ | refine SStore.on 4 rfl ?_ | refine SStore.on 5 rfl ?_ | refine SBox.f ?_ | refine SCall.p (by fail) ?_ | fail | refine SApp.c rfl rfl (by first | assumption | exact Moves.more (by assumption) (by assumption) | fail) (by first | (simp only [length_aBytes, List.length_append, List.length_cons, List.length_nil, List.length_map, List.length_range]; omega) | omega | fail) fun tk1 σ1 hm => ?_ | refine SReg.t 0 [] (by decide +kernel) ?_ | refine And.intro (by first | omega | (simp only [List.length_cons, List.length_append, List.length_nil, List.length_map, length_aBytes, List.length_replicate, List.length_range]; omega) | fail) ?_ | refine ⟨_, ⟨by first | omega | (simp only [List.length_cons, List.length_append, List.length_nil, List.length_map, length_aBytes, List.length_replicate, List.length_range]; omega) | fail, by first | assumption | exact get_map (by assumption) | exact get_bytes (by assumption) | fail⟩, ?_⟩ | refine ⟨_, toBytes_aBytes _, ?_⟩ | refine ⟨_, by repeat (first | exact toB_nil | apply toB_cons | apply toB_consC _ (by first | omega | (simp only [List.length_cons, List.length_append, List.length_nil, List.length_map, length_aBytes, List.length_replicate, List.length_range]; omega) | fail)), ?_⟩ | refine ⟨_, IntWalk.i64_in _ (by first | omega | (simp only [List.length_cons, List.length_append, List.length_nil, List.length_map, length_aBytes, List.length_replicate, List.length_range]; omega) | fail), ?_⟩ | refine ⟨_, wrap_u8 _, ?_⟩ | refine ⟨_, rfl, ?_⟩ | refine ⟨true, fun b1 hb1 => ?_⟩ | intro b1 hb1 | fail); conv => whnf))
    refine .w ⟨rfl, av, r, ?_⟩
    rw [hg, gp2]
    exact hxa
  · obtain ⟨n, rfl⟩ : ∃ k, n = k + 1 := ⟨n - 1, by omega⟩
    have d0 : decide ((0 : Int) < ((n + 1 : Nat) : Int)) = true := decide_eq_true (by omega)
    cases bad with
    | true =>
      conv => whnf
      repeat' (((first | refine SIf.y Ty.mixed (by first | exact rfl | assumption | fail) ?_ | refine SIf.n Ty.mixed (by first | exact rfl | assumption | fail) ?_ | refine SCond.y (by first | exact rfl | assumption | fail) ?_ | refine SCond.n (by first | exact rfl | assumption | fail) ?_ | refine SPick.y (by first | exact rfl | assumption | fail) ?_ | refine SPick.n (by first | exact rfl | assumption | fail) ?_ | refine SPick.b ?_ | refine SPick.i ?_ | refine SCall.b 0 (fun hb => by exact rnum2_s w0 v _ br _ hv (by first | exact Nat.zero_le _ | omega) hb) rfl rfl ?_ | refine SCall.b 1 (fun hb => by exact rnum2_s w0 v _ br _ hv (by first | exact Nat.zero_le _ | omega) hb) rfl rfl ?_ | refine SCall.b 2 (fun hb => by exact rnum2_s w0 v _ br _ hv (by first | exact Nat.zero_le _ | omega) hb) rfl rfl ?_ | refine SCall.b 3 (fun hb => by exact rnum2_s w0 v _ br _ hv (by first | exact Nat.zero_le _ | omega) hb) rfl rfl ?_ | refine SLoad.on 0 rfl ?_ | refine SLoad.on 1 rfl ?_ | refine SLoad.on 2 rfl ?_ | refine SLoad.on 3 rfl ?_ | refine SLoad.on 4 rfl ?_ | refine SLoad.on 5 rfl ?_ | refine SStore.on 0 rfl ?_ | refine SStore.on 1 rfl ?_ | refine SStore.on 2 rfl ?_ | refine SStore.on 3 rfl ?_ | refine SStore.on 4 rfl ?_ | refine SStore.on 5 rfl ?_ | refine SBox.f ?_ | refine SCall.p (by fail) ?_ | fail | refine SApp.c rfl rfl (by first | assumption | exact Moves.more (by assumption) (by assumption) | fail) (by first | (simp only [length_aBytes, List.length_append, List.length_cons, List.length_nil, List.length_map, List.length_range]; omega) | omega | fail) fun tk1 σ1 hm => ?_ | refine SReg.t 0 [] (by decide +kernel) ?_ | refine And.intro (by first | omega | (simp only [List.length_cons, List.length_append, List.length_nil, List.length_map, length_aBytes, List.length_replicate, List.length_range]; omega) | fail) ?_ | refine ⟨_, ⟨by first | omega | (simp only [List.length_cons, List.length_append, List.length_nil, List.length_map, length_aBytes, List.length_replicate, List.length_range]; omega) | fail, by first | assumption | exact get_map (by assumption) | exact get_bytes (by assumption) | fail⟩, ?_⟩ | refine ⟨_, toBytes_aBytes _, ?_⟩ | refine ⟨_, by repeat (first | exact toB_nil | apply toB_cons | apply toB_consC _ (by first | omega | (simp only [List.length_cons, List.length_append, List.length_nil, List.length_map, length_aBytes, List.length_replicate, List.length_range]; omega) | fail)), ?_⟩ | refine ⟨_, IntWalk.i64_in _ (by first | omega | (simp only [List.length_cons, List.length_append, List.length_nil, List.length_map, length_aBytes, List.length_replicate, List.length_range]; omega) | fail), ?_⟩ | refine ⟨_, wrap_u8 _, ?_⟩ | refine ⟨_, rfl, ?_⟩ | refine ⟨true, fun b1 hb1 => ?_⟩ | intro b1 hb1 | fail); conv => whnf))
      refine .w ⟨rfl, av, r, ?_⟩
      rw [hg, g2_stop v _ _ _ rfl]
      exact hxa
    | false =>
      have f3 := n2_far v (a, false)
      simp only at hs1 hac0
      have hac1 := hac0 trivial
      have hg' : gp2 v (n + 1) (a, false) acc = gp2 v n (n2 v (a, false)).2 (acc ++ [((n2 v (a, false)).1 : Int)]) := by rw [gp2, if_neg (by simp)]
      have f4 := n2_gt v (a, false)
      have hRs := RowV.set (c := br) (ds := rd2 v (n2 v (a, false)).2) hxa.a hrr
      have fin : ∀ (b' cap' : Nat) (σ' : St), RowV σ' 1 (acc.map (AV.int .i64) ++ [.int .i64 ((n2 v (a, false)).1 : Nat)]) (.msl b' 0 ((acc.map (AV.int .i64)).length + 1) cap') (some b') → (r = some b' ∨ (st.setBox br (rd2 v (n2 v (a, false)).2)).box b' = none) → (∀ i cs, r ≠ some i → (st.setBox br (rd2 v (n2 v (a, false)).2)).box i = some cs → σ'.box i = some cs) → σ'.tok = (st.setBox br (rd2 v (n2 v (a, false)).2)).tok →
          n ≤ 9007199254740992 ∧ (n2 v (a, false)).2.1 ≤ v.length ∧ ((n2 v (a, false)).2.2 = false → (acc ++ [((n2 v (a, false)).1 : Int)]).length ≤ x.acks.length + (n2 v (a, false)).2.1) ∧ (acc ++ [((n2 v (a, false)).1 : Int)]).length ≤ x.acks.length + v.length + 1 ∧ gp2 v (n2 v (0, false)).1 (n2 v (0, false)).2 x.acks = gp2 v n (n2 v (a, false)).2 (acc ++ [((n2 v (a, false)).1 : Int)]) ∧
          XAt τ (σ'.setBox bx (xc { x with acks := acc ++ [((n2 v (a, false)).1 : Int)] } (.msl b' 0 ((acc.map (AV.int .i64)).length + 1) cap') qv)) bx { x with acks := acc ++ [((n2 v (a, false)).1 : Int)] } (.msl b' 0 ((acc.map (AV.int .i64)).length + 1) cap') qv (some b') rq ∧ some b' ≠ some br := fun b' cap' σ' q1 q2 q3 q4 => by
        obtain ⟨r1, r2⟩ := XAt.appA hxa hrn hbr hrr h2 q1 q2 q3 q4
        simp only [List.length_append, List.length_singleton]
        exact ⟨by omega, by omega, fun e => by have := f4 e; simp only at this; omega, by omega, hg.trans hg', r1, r2⟩
      cases hxa.a with
      | nil h0 =>
        conv => whnf
        repeat' (((first | refine SIf.y Ty.mixed (by first | exact rfl | assumption | fail) ?_ | refine SIf.n Ty.mixed (by first | exact rfl | assumption | fail) ?_ | refine SCond.y (by first | exact rfl | assumption | fail) ?_ | refine SCond.n (by first | exact rfl | assumption | fail) ?_ | refine SPick.y (by first | exact rfl | assumption | fail) ?_ | refine SPick.n (by first | exact rfl | assumption | fail) ?_ | refine SPick.b ?_ | refine SPick.i ?_ | refine SLoadH.on 0 rfl rfl ?_ | refine SLoadH.on 1 rfl rfl ?_ | refine SLoadH.on 2 rfl rfl ?_ | refine SLoadH.on 3 rfl rfl ?_ | refine SCall.bH 0 (fun hb => by exact rnum2_s w0 v _ br _ hv (by first | exact Nat.zero_le _ | omega) hb) rfl rfl (by (intro p hp; cases hp; first | assumption | exact Ne.symm (by assumption))) ?_ | refine SCall.bH 1 (fun hb => by exact rnum2_s w0 v _ br _ hv (by first | exact Nat.zero_le _ | omega) hb) rfl rfl (by (intro p hp; cases hp; first | assumption | exact Ne.symm (by assumption))) ?_ | refine SLoad.on 0 rfl ?_ | refine SLoad.on 1 rfl ?_ | refine SLoad.on 2 rfl ?_ | refine SLoad.on 3 rfl ?_ | refine SLoad.on 4 rfl ?_ | refine SLoad.on 5 rfl ?_ | refine SStore.on 0 rfl ?_ | refine SStore.on 1 rfl ?_ | refine SStore.on 2 rfl ?_ | refine SStore.on 3 rfl ?_ | refine SStore.on 4 rfl ?_ | refine SStore.on 5 rfl ?_ | refine SBox.f ?_ | refine SCall.p (by fail) ?_ | fail | refine SApp.c rfl rfl (by first | assumption | exact Moves.more (by assumption) (by assumption) | fail) (by first | (simp only [length_aBytes, List.length_append, List.length_cons, List.length_nil, List.length_map, List.length_range]; omega) | omega | fail) fun tk1 σ1 hm => ?_ | refine SReg.h 1 rfl [0, 1, 2, 3, 5, 4, 6, 7, 8, 9, 10, 11] [0, 0, 0, 0, 3, 0, 4, 0, 2, 0, 0, 2] (by decide +kernel) ?_; conv => whnf | refine And.intro (by first | omega | (simp only [List.length_cons, List.length_append, List.length_nil, List.length_map, length_aBytes, List.length_replicate, List.length_range]; omega) | fail) ?_ | refine ⟨_, ⟨by first | omega | (simp only [List.length_cons, List.length_append, List.length_nil, List.length_map, length_aBytes, List.length_replicate, List.length_range]; omega) | fail, by first | assumption | exact get_map (by assumption) | exact get_bytes (by assumption) | fail⟩, ?_⟩ | refine ⟨_, toBytes_aBytes _, ?_⟩ | refine ⟨_, by repeat (first | exact toB_nil | apply toB_cons | apply toB_consC _ (by first | omega | (simp only [List.length_cons, List.length_append, List.length_nil, List.length_map, length_aBytes, List.length_replicate, List.length_range]; omega) | fail)), ?_⟩ | refine ⟨_, IntWalk.i64_in _ (by first | omega | (simp only [List.length_cons, List.length_append, List.length_nil, List.length_map, length_aBytes, List.length_replicate, List.length_range]; omega) | fail), ?_⟩ | refine ⟨_, wrap_u8 _, ?_⟩ | refine ⟨_, rfl, ?_⟩ | refine ⟨true, fun b1 hb1 => ?_⟩ | intro b1 hb1 | fail); conv => whnf))
        refine SApp.row rfl hRs rfl (ints_sz _) rfl (by simp only [List.length_map]; omega) (by simp) fun b' cap' σ' q1 q2 q3 q4 => ?_
        conv => whnf
        repeat' (((first | refine SIf.y Ty.mixed (by first | exact rfl | assumption | fail) ?_ | refine SIf.n Ty.mixed (by first | exact rfl | assumption | fail) ?_ | refine SCond.y (by first | exact rfl | assumption | fail) ?_ | refine SCond.n (by first | exact rfl | assumption | fail) ?_ | refine SPick.y (by first | exact rfl | assumption | fail) ?_ | refine SPick.n (by first | exact rfl | assumption | fail) ?_ | refine SPick.b ?_ | refine SPick.i ?_ | refine SLoadH.on 0 rfl rfl ?_ | refine SLoadH.on 1 rfl rfl ?_ | refine SLoadH.on 2 rfl rfl ?_ | refine SLoadH.on 3 rfl rfl ?_ | refine SCall.bH 0 (fun hb => by exact rnum2_s w0 v _ br _ hv (by first | exact Nat.zero_le _ | omega) hb) rfl rfl (by (intro p hp; cases hp; first | assumption | exact Ne.symm (by assumption))) ?_ | refine SCall.bH 1 (fun hb => by exact rnum2_s w0 v _ br _ hv (by first | exact Nat.zero_le _ | omega) hb) rfl rfl (by (intro p hp; cases hp; first | assumption | exact Ne.symm (by assumption))) ?_ | refine SLoad.on 0 rfl ?_ | refine SLoad.on 1 rfl ?_ | refine SLoad.on 2 rfl ?_ | refine SLoad.on 3 rfl ?_ | refine SLoad.on 4 rfl ?_ | refine SLoad.on 5 rfl ?_ | refine SStore.on 0 rfl ?_ | refine SStore.on 1 rfl ?_ | refine SStore.on 2 rfl ?_ | refine SStore.on 3 rfl ?_ | refine SStore.on 4 rfl ?_ | refine SStore.on 5 rfl ?_ | refine SBox.f ?_ | refine SCall.p (by fail) ?_ | fail | refine SApp.c rfl rfl (by first | assumption | exact Moves.more (by assumption) (by assumption) | fail) (by first | (simp only [length_aBytes, List.length_append, List.length_cons, List.length_nil, List.length_map, List.length_range]; omega) | omega | fail) fun tk1 σ1 hm => ?_ | refine SReg.h 1 rfl [0, 1, 2, 3, 5, 4, 6, 7, 8, 9, 10, 11] [0, 0, 0, 0, 3, 0, 4, 0, 2, 0, 0, 2] (by decide +kernel) ?_; conv => whnf | refine And.intro (by first | omega | (simp only [List.length_cons, List.length_append, List.length_nil, List.length_map, length_aBytes, List.length_replicate, List.length_range]; omega) | fail) ?_ | refine ⟨_, ⟨by first | omega | (simp only [List.length_cons, List.length_append, List.length_nil, List.length_map, length_aBytes, List.length_replicate, List.length_range]; omega) | fail, by first | assumption | exact get_map (by assumption) | exact get_bytes (by assumption) | fail⟩, ?_⟩ | refine ⟨_, toBytes_aBytes _, ?_⟩ | refine ⟨_, by repeat (first | exact toB_nil | apply toB_cons | apply toB_consC _ (by first | omega | (simp only [List.length_cons, List.length_append, List.length_nil, List.length_map, length_aBytes, List.length_replicate, List.length_range]; omega) | fail)), ?_⟩ | refine ⟨_, IntWalk.i64_in _ (by first | omega | (simp only [List.length_cons, List.length_append, List.length_nil, List.length_map, length_aBytes, List.length_replicate, List.length_range]; omega) | fail), ?_⟩ | refine ⟨_, wrap_u8 _, ?_⟩ | refine ⟨_, rfl, ?_⟩ | refine ⟨true, fun b1 hb1 => ?_⟩ | intro b1 hb1 | fail); conv => whnf))
        exact ⟨(n, (n2 v (a, false)).2, acc ++ [((n2 v (a, false)).1 : Int)], _, _), Nat.lt_succ_self n, by repeat (first | exact trivial | refine ⟨by first | trivial | exact Weak.refl _ | exact Weak.tok _ _ _ | exact Weak.of_eq (congrArg (AV.int _) (by omega)) | exact Weak.of_eq (congrArg AV.bool (by fail)) | exact Weak.nils _ _ (.inr rfl), ?_⟩), .refl _, fin b' cap' σ' q1 q2 q3 q4⟩
      | own b cap junk hb hc hl =>
        conv => whnf
        repeat' (((first | refine SIf.y Ty.mixed (by first | exact rfl | assumption | fail) ?_ | refine SIf.n Ty.mixed (by first | exact rfl | assumption | fail) ?_ | refine SCond.y (by first | exact rfl | assumption | fail) ?_ | refine SCond.n (by first | exact rfl | assumption | fail) ?_ | refine SPick.y (by first | exact rfl | assumption | fail) ?_ | refine SPick.n (by first | exact rfl | assumption | fail) ?_ | refine SPick.b ?_ | refine SPick.i ?_ | refine SLoadH.on 0 rfl rfl ?_ | refine SLoadH.on 1 rfl rfl ?_ | refine SLoadH.on 2 rfl rfl ?_ | refine SLoadH.on 3 rfl rfl ?_ | refine SCall.bH 0 (fun hb => by exact rnum2_s w0 v _ br _ hv (by first | exact Nat.zero_le _ | omega) hb) rfl rfl (by (intro p hp; cases hp; first | assumption | exact Ne.symm (by assumption))) ?_ | refine SCall.bH 1 (fun hb => by exact rnum2_s w0 v _ br _ hv (by first | exact Nat.zero_le _ | omega) hb) rfl rfl (by (intro p hp; cases hp; first | assumption | exact Ne.symm (by assumption))) ?_ | refine SLoad.on 0 rfl ?_ | refine SLoad.on 1 rfl ?_ | refine SLoad.on 2 rfl ?_ | refine SLoad.on 3 rfl ?_ | refine SLoad.on 4 rfl ?_ | refine SLoad.on 5 rfl ?_ | refine SStore.on 0 rfl ?_ | refine SStore.on 1 rfl ?_ | refine SStore.on 2 rfl ?_ | refine SStore.on 3 rfl ?_ | refine SStore.on 4 rfl ?_ | refine SStore.on 5 rfl ?_ | refine SBox.f ?_ | refine SCall.p (by fail) ?_ | fail | refine SApp.c rfl rfl (by first | assumption | exact Moves.more (by assumption) (by assumption) | fail) (by first | (simp only [length_aBytes, List.length_append, List.length_cons, List.length_nil, List.length_map, List.length_range]; omega) | omega | fail) fun tk1 σ1 hm => ?_ | refine SReg.h 1 rfl [0, 1, 2, 3, 5, 4, 6, 7, 8, 9, 10, 11] [0, 0, 0, 0, 3, 0, 4, 0, 2, 0, 0, 2] (by decide +kernel) ?_; conv => whnf | refine And.intro (by first | omega | (simp only [List.length_cons, List.length_append, List.length_nil, List.length_map, length_aBytes, List.length_replicate, List.length_range]; omega) | fail) ?_ | refine ⟨_, ⟨by first | omega | (simp only [List.length_cons, List.length_append, List.length_nil, List.length_map, length_aBytes, List.length_replicate, List.length_range]; omega) | fail, by first | assumption | exact get_map (by assumption) | exact get_bytes (by assumption) | fail⟩, ?_⟩ | refine ⟨_, toBytes_aBytes _, ?_⟩ | refine ⟨_, by repeat (first | exact toB_nil | apply toB_cons | apply toB_consC _ (by first | omega | (simp only [List.length_cons, List.length_append, List.length_nil, List.length_map, length_aBytes, List.length_replicate, List.length_range]; omega) | fail)), ?_⟩ | refine ⟨_, IntWalk.i64_in _ (by first | omega | (simp only [List.length_cons, List.length_append, List.length_nil, List.length_map, length_aBytes, List.length_replicate, List.length_range]; omega) | fail), ?_⟩ | refine ⟨_, wrap_u8 _, ?_⟩ | refine ⟨_, rfl, ?_⟩ | refine ⟨true, fun b1 hb1 => ?_⟩ | intro b1 hb1 | fail); conv => whnf))
        refine SApp.row rfl hRs rfl (ints_sz _) rfl (by simp only [List.length_map]; omega) (by simp only [List.mem_cons, List.not_mem_nil, or_false, forall_eq_or_imp, forall_eq]; exact ⟨hrr, fun e => (hxa.an _ e).2 rfl⟩) fun b' cap' σ' q1 q2 q3 q4 => ?_
        conv => whnf
        repeat' (((first | refine SIf.y Ty.mixed (by first | exact rfl | assumption | fail) ?_ | refine SIf.n Ty.mixed (by first | exact rfl | assumption | fail) ?_ | refine SCond.y (by first | exact rfl | assumption | fail) ?_ | refine SCond.n (by first | exact rfl | assumption | fail) ?_ | refine SPick.y (by first | exact rfl | assumption | fail) ?_ | refine SPick.n (by first | exact rfl | assumption | fail) ?_ | refine SPick.b ?_ | refine SPick.i ?_ | refine SLoadH.on 0 rfl rfl ?_ | refine SLoadH.on 1 rfl rfl ?_ | refine SLoadH.on 2 rfl rfl ?_ | refine SLoadH.on 3 rfl rfl ?_ | refine SCall.bH 0 (fun hb => by exact rnum2_s w0 v _ br _ hv (by first | exact Nat.zero_le _ | omega) hb) rfl rfl (by (intro p hp; cases hp; first | assumption | exact Ne.symm (by assumption))) ?_ | refine SCall.bH 1 (fun hb => by exact rnum2_s w0 v _ br _ hv (by first | exact Nat.zero_le _ | omega) hb) rfl rfl (by (intro p hp; cases hp; first | assumption | exact Ne.symm (by assumption))) ?_ | refine SLoad.on 0 rfl ?_ | refine SLoad.on 1 rfl ?_ | refine SLoad.on 2 rfl ?_ | refine SLoad.on 3 rfl ?_ | refine SLoad.on 4 rfl ?_ | refine SLoad.on 5 rfl ?_ | refine SStore.on 0 rfl ?_ | refine SStore.on 1 rfl ?_ | refine SStore.on 2 rfl ?_ | refine SStore.on 3 rfl ?_ | refine SStore.on 4 rfl ?_ | refine SStore.on 5 rfl ?_ | refine SBox.f ?_ | refine SCall.p (by fail) ?_ | fail | refine SApp.c rfl rfl (by first | assumption | exact Moves.more (by assumption) (by assumption) | fail) (by first | (simp only [length_aBytes, List.length_append, List.length_cons, List.length_nil, List.length_map, List.length_range]; omega) | omega | fail) fun tk1 σ1 hm => ?_ | refine SReg.h 1 rfl [0, 1, 2, 3, 5, 4, 6, 7, 8, 9, 10, 11] [0, 0, 0, 0, 3, 0, 4, 0, 2, 0, 0, 2] (by decide +kernel) ?_; conv => whnf | refine And.intro (by first | omega | (simp only [List.length_cons, List.length_append, List.length_nil, List.length_map, length_aBytes, List.length_replicate, List.length_range]; omega) | fail) ?_ | refine ⟨_, ⟨by first | omega | (simp only [List.length_cons, List.length_append, List.length_nil, List.length_map, length_aBytes, List.length_replicate, List.length_range]; omega) | fail, by first | assumption | exact get_map (by assumption) | exact get_bytes (by assumption) | fail⟩, ?_⟩ | refine ⟨_, toBytes_aBytes _, ?_⟩ | refine ⟨_, by repeat (first | exact toB_nil | apply toB_cons | apply toB_consC _ (by first | omega | (simp only [List.length_cons, List.length_append, List.length_nil, List.length_map, length_aBytes, List.length_replicate, List.length_range]; omega) | fail)), ?_⟩ | refine ⟨_, IntWalk.i64_in _ (by first | omega | (simp only [List.length_cons, List.length_append, List.length_nil, List.length_map, length_aBytes, List.length_replicate, List.length_range]; omega) | fail), ?_⟩ | refine ⟨_, wrap_u8 _, ?_⟩ | refine ⟨_, rfl, ?_⟩ | refine ⟨true, fun b1 hb1 => ?_⟩ | intro b1 hb1 | fail); conv => whnf))
        exact ⟨(n, (n2 v (a, false)).2, acc ++ [((n2 v (a, false)).1 : Int)], _, _), Nat.lt_succ_self n, by repeat (first | exact trivial | refine ⟨by first | trivial | exact Weak.refl _ | exact Weak.tok _ _ _ | exact Weak.of_eq (congrArg (AV.int _) (by omega)) | exact Weak.of_eq (congrArg AV.bool (by fail)) | exact Weak.nils _ _ (.inr rfl), ?_⟩), .refl _, fin b' cap' σ' q1 q2 q3 q4⟩
end Go.Proofs.YtkbmkhhcppfcnaaGreatDoor
end
section
set_option linter.unusedVariables false
set_option linter.unusedSimpArgs false
set_option maxRecDepth 100000
set_option maxHeartbeats 1000000
namespace Go.Proofs.YtkbmkhhcppfcnaaGreatDoor
open Go.Al Go.RowKit
def tabs2 : List AV := [.int .u8 97, .fn (.func 81) [] [], .int .u8 98, .fn (.func 83) [] [], .int .u8 110, .fn (.func 85) [] [], .int .u8 113, .fn (.func 86) [] [], .int .u8 115, .fn (.func 87) [] [], .int .u8 120, .fn (.func 88) [] []]
theorem tables2_any (w0 : World) : CallP Tryz.prog w0 49 [] (.agg tabs2) := by
  refine CallP.x Ty.tok Ty.mixed Tryz.func49 rfl Tryz.ntmps49 rfl (by simp) (by decide +kernel) fun σ => ?_
  (conv => whnf); intro b1 hb1; (conv => whnf); refine SStore.on 0 rfl ?_; (conv => whnf); refine SLoad.on 0 rfl ?_; (conv => whnf)
  exact .p (by repeat (first | assumption | exact .refl _ | refine le_setBox ?_ (by first | assumption | exact none_in (by assumption) | exact none_in (none_in (by assumption)) | exact none_in (none_in (none_in (by assumption))) | fail) | exact Moves.le (by assumption) | refine .trans ?_ (Moves.le (by assumption)))) rfl
theorem isSeq_any (w0 : World) (m : Msg) (seq : Int) : CallP Tryz.prog w0 90 [eMsg m, .vp (.int .i64 seq)] (.bool (decide (m.seq = seq))) := by
  refine CallP.x Ty.tok Ty.mixed Tryz.func90 rfl Tryz.ntmps90 rfl (by simp) (by decide +kernel) fun σ => ?_
  (conv => whnf); refine SBox.f ?_; (conv => whnf); exact .p (.refl _) rfl
def idx2 (seq : Int) (l : List Msg) : Int := match l.findIdx? (fun m => decide (m.seq = seq)) with
  | some i => (i : Nat)
  | none => -1
theorem idx2_at {seq : Int} {l : List Msg} {i : Nat} {m : Msg} (h : ∀ j m', j < i → l[j]? = some m' → m'.seq ≠ seq) (hi : l[i]? = some m) (hm : m.seq = seq) : idx2 seq l = i := by
  have : l.findIdx? (fun m => decide (m.seq = seq)) = some i := by
    obtain ⟨hlt, rfl⟩ := List.getElem?_eq_some_iff.1 hi
    rw [List.findIdx?_eq_some_iff_getElem]
    exact ⟨hlt, by simpa using hm, fun j hj => by simpa using h j _ hj (by simp)⟩
  rw [idx2, this]
theorem idx2_no {seq : Int} {l : List Msg} (h : ∀ j m', j < l.length → l[j]? = some m' → m'.seq ≠ seq) : idx2 seq l = -1 := by
  have : l.findIdx? (fun m => decide (m.seq = seq)) = none := by
    rw [List.findIdx?_eq_none_iff]
    intro x hx
    obtain ⟨j, hj, rfl⟩ := List.getElem_of_mem hx
    simpa using h j _ hj (by simp)
  rw [idx2, this]
theorem indexNil_any (w0 : World) (seq : Int) : CallP Tryz.prog w0 89 [.nils, .fn (.func 90) [] [.vp (.int .i64 seq)]] (.int .i64 (-1)) := by
  refine CallP.x Ty.tok Ty.mixed Tryz.func89 rfl Tryz.ntmps89 rfl (by simp) (by decide +kernel) fun σ => ?_
  (conv => whnf)
  skip
  refine SLoop.by Ty.mixed (fun (_ : Unit) => 0) (fun _ => [(7, .int .i64 0), (8, .int .i64 0)]) (fun _ => []) (fun _ s => s = σ) () ⟨by repeat (first | exact trivial | refine ⟨by first | trivial | exact Weak.refl _ | exact Weak.tok _ _ _ | exact Weak.of_eq (congrArg (AV.int _) (by omega)) | exact Weak.of_eq (congrArg AV.bool (by fail)) | exact Weak.nils _ _ (.inr rfl), ?_⟩), BSub.none _, rfl⟩ ?_
  rintro _ s rfl; (conv => whnf); refine SIf.n Ty.mixed (by exact rfl) ?_; (conv => whnf); exact .p (.refl _) rfl
def fm (l : List Msg) : List AV := (l.map eMsg).flatMap AV.cells
theorem fm_len (l : List Msg) : (fm l).length = l.length * 8 := by unfold fm; rw [flat_len (msgs_sz l), List.length_map]
theorem fm_split {q : List Msg} {i : Nat} {m : Msg} (h : q[i]? = some m) : fm q = fm (q.take i) ++ mc m ++ fm (q.drop (i + 1)) := by
  obtain ⟨hi, rfl⟩ := List.getElem?_eq_some_iff.1 h
  have e : q = q.take i ++ q[i] :: q.drop (i + 1) := by rw [← List.drop_eq_getElem_cons hi, List.take_append_drop]
  conv => lhs; rw [e]
  simp only [fm, List.map_append, List.map_cons, List.flatMap_append, List.flatMap_cons, List.append_assoc]
  rfl
theorem index_any (w0 : World) (seq : Int) (q : List Msg) (b cap : Nat) (junk : List AV) (σ : St) (hb : σ.box b = some (fm q ++ junk)) (hl : q.length ≤ 1000000) :
    CallW Tryz.prog w0 89 [.msl b 0 q.length cap, .fn (.func 90) [] [.vp (.int .i64 seq)]] σ (fun r s => r = .int .i64 (idx2 seq q) ∧ s = σ) := by
  refine CallW.x Ty.tok Ty.mixed Tryz.func89 rfl Tryz.ntmps89 rfl (by simp) (by decide +kernel) (.nil σ) ?_; (conv => whnf)
  skip
  refine SLoop.by2 Ty.mixed (fun i => q.length - i) (fun i => [(0, .msl b 0 q.length cap), (1, .fn (.func 90) [] [.vp (.int .i64 seq)]), (7, .int .i64 q.length), (8, .int .i64 i)]) (fun _ => []) (fun i s => i ≤ q.length ∧ (∀ j m', j < i → q[j]? = some m' → m'.seq ≠ seq) ∧ s = σ) 0 ⟨by repeat (first | exact trivial | refine ⟨by first | trivial | exact Weak.refl _ | exact Weak.tok _ _ _ | exact Weak.of_eq (congrArg (AV.int _) (by omega)) | exact Weak.of_eq (congrArg AV.bool (by fail)) | exact Weak.nils _ _ (.inr rfl), ?_⟩), BSub.none _, Nat.zero_le _, fun j m' h => absurd h (Nat.not_lt_zero _), rfl⟩ ?_
  rintro i s ⟨hi, hj, rfl⟩ hK
  by_cases hlt : i < q.length
  · have hc : decide ((i : Int) < (q.length : Nat)) = true := decide_eq_true (by omega)
    have ga : q[i]? = some q[i] := by simp [hlt]
    have hs := fm_split ga
    generalize q[i] = m at ga hs
    rw [hs, List.append_assoc] at hb
    have ho : 0 + (i : Int).toNat * 8 = (fm (q.take i)).length := by rw [fm_len, List.length_take]; simp; omega
    refine ⟨[(b, fm (q.take i) ++ mc m ++ (fm (q.drop (i + 1)) ++ junk))], ⟨by simpa using hb, by simp⟩, ?_⟩
    (conv => whnf); refine SIf.y Ty.mixed (by assumption) ?_; (conv => whnf); refine And.intro (by omega) ?_; (conv => whnf); refine SLoad.midA 0 rfl ho rfl rfl ?_; (conv => whnf); refine SCall.p (by exact isSeq_any w0 m seq) ?_; (conv => whnf)
    (refine SIf.x Ty.mixed (fun hc => ?_) (fun hc => ?_) <;> (conv => whnf))
    · have hm : m.seq = seq := by simpa using hc
      skip
      exact .p (.refl _) (by rw [idx2_at hj ga hm])
    · have hm : m.seq ≠ seq := by simpa using hc
      refine ⟨_, IntWalk.i64_in _ (by omega), ?_⟩; (conv => whnf)
      refine ⟨i + 1, by omega, by repeat (first | exact trivial | refine ⟨by first | trivial | exact Weak.refl _ | exact Weak.tok _ _ _ | exact Weak.of_eq (congrArg (AV.int _) (by omega)) | exact Weak.of_eq (congrArg AV.bool (by fail)) | exact Weak.nils _ _ (.inr rfl), ?_⟩), BSub.none _, by omega, fun j m' h1 h2 => ?_, rfl⟩
      by_cases e : j = i
      · subst e; rw [ga] at h2; cases h2; exact hm
      · exact hj j m' (by omega) h2
  · have hc : decide ((i : Int) < (q.length : Nat)) = false := decide_eq_false (by omega)
    have hge : i = q.length := by omega
    subst hge
    refine ⟨[], .nil _, ?_⟩; (conv => whnf); refine SIf.n Ty.mixed (by assumption) ?_; (conv => whnf); exact .p (.refl _) (by rw [idx2_no hj])
end Go.Proofs.YtkbmkhhcppfcnaaGreatDoor
end
section
set_option linter.unusedVariables false
set_option linter.unusedSimpArgs false
set_option maxRecDepth 100000
set_option maxHeartbeats 1000000
namespace Go.Proofs.YtkbmkhhcppfcnaaGreatDoor
open Go.Al Go.RowKit
inductive PlaceAt (τ s : St) (bx : Nat) (x : Sub) (ra rq : Option Nat) (seq : Int) : Nat → Nat → Prop
  | found (i : Nat) (m : Msg) (b : Nat) (o : Nat) (hr : rq = some b) (hi : x.queue[i]? = some m) (hm : m.seq = seq) (hj : ∀ j m', j < i → x.queue[j]? = some m' → m'.seq ≠ seq) (ho : o = (fm (x.queue.take i)).length) : PlaceAt τ s bx x ra rq seq b o
  | lone (bm : Nat) (hj : ∀ m ∈ x.queue, m.seq ≠ seq) (hb : s.box bm = some (mc (msg0 0))) (hn : τ.box bm = none) (h1 : bm ≠ bx) (h2 : ra ≠ some bm) (h3 : rq ≠ some bm) : PlaceAt τ s bx x ra rq seq bm 0
def queued (t : UInt8) (seq : Int) (x : Sub) : Sub := if t.toNat = 98 then { x with queue := x.queue ++ [msg0 seq] } else x
theorem place_any (w0 : World) (x : Sub) (ac qv : AV) (ra rq : Option Nat) (τ : St) (bx : Nat) (t : UInt8) (seq : Int) (σ : St) (hn : x.queue.length ≤ 100000) (hx : XAt τ σ bx x ac qv ra rq) :
    CallW Tryz.prog w0 50 [.ptr bx 0, .int .u8 t.toNat, .int .i64 seq] σ (fun r s => ∃ bm o qv' rq', r = .ptr bm o ∧ XAt τ s bx (queued t seq x) ac qv' ra rq' ∧ PlaceAt τ s bx (queued t seq x) ra rq' seq bm o) := by
  refine CallW.x (B := [(bx, xc x ac qv)]) Ty.tok Ty.mixed Tryz.func50 rfl Tryz.ntmps50 rfl (by simp) (by decide +kernel) ⟨by simp [hx.hbx], by simp⟩ ?_
  (conv => whnf); refine SBox.f ?_; (conv => whnf); refine SIf.meet Ty.mixed (fun (a : AV × Option Nat) => [(0, .ptr bx 0), (5, .vp (.int .i64 seq))]) (fun (qv', rq') => [(bx, xc (queued t seq x) ac qv')]) (fun (qv', rq') s => XAt τ s bx (queued t seq x) ac qv' ra rq') (fun hc => ?_) (fun hc => ?_) ?_
  · have ht : t.toNat = 98 := by simp at hc; omega
    have hqd : queued t seq x = { x with queue := x.queue ++ [msg0 seq] } := by rw [queued, if_pos ht]
    rw [hqd]
    cases hx.q with
    | nil h0 =>
      (conv => whnf); refine SReg.d [0, 1, 2, 3, 4, 5, 6, 7, 8, 9, 10, 11] [0, 0, 0, 0, 1, 1, 0, 0, 2, 0, 0, 2] (by decide +kernel) ?_; (conv => whnf); (conv => whnf); refine SLoad.on 0 rfl ?_; (conv => whnf)
      refine SApp.row (n' := (x.queue ++ [msg0 seq]).length) (by simp) hx.q rfl (msgs_sz _) rfl (by simp only [List.length_map]; omega) (by simp) fun b' cap' σ' q1 q2 q3 q4 => ?_
      (conv => whnf); refine SStore.on 0 rfl ?_; (conv => whnf)
      exact ⟨(_, _), by repeat (first | exact trivial | refine ⟨by first | trivial | exact Weak.refl _ | exact Weak.tok _ _ _ | exact Weak.of_eq (congrArg (AV.int _) (by omega)) | exact Weak.of_eq (congrArg AV.bool (by fail)) | exact Weak.nils _ _ (.inr rfl), ?_⟩), .refl _, XAt.appQ (m := msg0 seq) hx q1 q2 q3 q4⟩
    | own b cap junk hb hcp hl =>
      (conv => whnf); refine SReg.d [0, 1, 2, 3, 4, 5, 6, 7, 8, 9, 10, 11] [0, 0, 0, 0, 1, 1, 0, 0, 2, 0, 0, 2] (by decide +kernel) ?_; (conv => whnf); (conv => whnf); refine SLoad.on 0 rfl ?_; (conv => whnf)
      refine SApp.row (n' := (x.queue ++ [msg0 seq]).length) (by simp) hx.q rfl (msgs_sz _) rfl (by simp only [List.length_map]; omega) (by simp only [List.mem_cons, List.not_mem_nil, or_false, forall_eq]; exact fun e => (hx.qn _ e).2 rfl) fun b' cap' σ' q1 q2 q3 q4 => ?_
      (conv => whnf); refine SStore.on 0 rfl ?_; (conv => whnf)
      exact ⟨(_, _), by repeat (first | exact trivial | refine ⟨by first | trivial | exact Weak.refl _ | exact Weak.tok _ _ _ | exact Weak.of_eq (congrArg (AV.int _) (by omega)) | exact Weak.of_eq (congrArg AV.bool (by fail)) | exact Weak.nils _ _ (.inr rfl), ?_⟩), .refl _, XAt.appQ (m := msg0 seq) hx q1 q2 q3 q4⟩
  · have ht : ¬ t.toNat = 98 := by simp at hc; omega
    have hqd : queued t seq x = x := by rw [queued, if_neg ht]
    rw [hqd]
    (conv => whnf)
    skip
    exact ⟨(_, _), by repeat (first | exact trivial | refine ⟨by first | trivial | exact Weak.refl _ | exact Weak.tok _ _ _ | exact Weak.of_eq (congrArg (AV.int _) (by omega)) | exact Weak.of_eq (congrArg AV.bool (by fail)) | exact Weak.nils _ _ (.inr rfl), ?_⟩), .refl _, hx⟩
  · rintro ⟨qv', rq'⟩ s hq
    have hn' : (queued t seq x).queue.length ≤ 100001 := by unfold queued; split <;> first | (simp; omega) | omega
    generalize queued t seq x = y at hq hn'
    cases hq.q with
    | nil h0 =>
      (conv => whnf); refine SLoad.on 0 rfl ?_; (conv => whnf); refine SCall.p (by exact indexNil_any w0 seq) ?_; (conv => whnf); refine SIf.y Ty.mixed (by exact rfl) ?_; (conv => whnf); refine SBox.b rfl ?_; (conv => whnf); intro b1 hb1; (conv => whnf)
      have h0' : y.queue = [] := by simpa using h0
      exact .w ⟨b1, 0, .nils, none, rfl, hq.other (le_none hq.le hb1) (fun e => (by subst e; rw [hq.hbx] at hb1; cases hb1)) (hq.ra_ne hb1) (by simp) _, .lone b1 (by rw [h0']; simp) setBox_same (le_none hq.le hb1) (fun e => (by subst e; rw [hq.hbx] at hb1; cases hb1)) (hq.ra_ne hb1) (by simp)⟩
    | own b cap junk hb hcp hl =>
      rw [List.length_map] at hq ⊢
      cases hf : y.queue.findIdx? (fun m => decide (m.seq = seq)) with
      | none =>
        have he : idx2 seq y.queue = -1 := by rw [idx2, hf]
        have hd : decide (idx2 seq y.queue < 0) = true := by rw [he]; rfl
        rw [List.findIdx?_eq_none_iff] at hf
        (conv => whnf); refine SLoad.on 0 rfl ?_; (conv => whnf); refine SCall.q (index_any w0 seq y.queue b cap junk _ hb (by omega)) (.inr rfl) ?_; (conv => whnf); refine SIf.y Ty.mixed (by assumption) ?_; (conv => whnf); refine SBox.b rfl ?_; (conv => whnf); intro b1 hb1; (conv => whnf)
        exact .w ⟨b1, 0, _, some b, rfl, hq.other (le_none hq.le hb1) (fun e => (by subst e; rw [hq.hbx] at hb1; cases hb1)) (hq.ra_ne hb1) (hq.rq_ne hb1) _, .lone b1 (fun m hm => by simpa using hf m hm) setBox_same (le_none hq.le hb1) (fun e => (by subst e; rw [hq.hbx] at hb1; cases hb1)) (hq.ra_ne hb1) (hq.rq_ne hb1)⟩
      | some i =>
        have he : idx2 seq y.queue = i := by rw [idx2, hf]
        have hd : decide (idx2 seq y.queue < 0) = false := by rw [he]; exact decide_eq_false (by omega)
        rw [List.findIdx?_eq_some_iff_getElem] at hf
        obtain ⟨hlt, hm, hj⟩ := hf
        have ho : 0 + (idx2 seq y.queue).toNat * 8 = (fm (y.queue.take i)).length := by rw [he, fm_len, List.length_take]; simp; omega
        (conv => whnf); refine SLoad.on 0 rfl ?_; (conv => whnf); refine SCall.q (index_any w0 seq y.queue b cap junk _ hb (by omega)) (.inr rfl) ?_; (conv => whnf); refine SIf.n Ty.mixed (by assumption) ?_; (conv => whnf); refine SLoad.on 0 rfl ?_; (conv => whnf); refine And.intro (by omega) ?_; (conv => whnf)
        exact .w ⟨b, _, _, some b, rfl, hq, .found i _ b _ rfl (List.getElem?_eq_getElem hlt) (by simpa using hm) (fun j m' h1 h2 => by obtain ⟨h3, rfl⟩ := List.getElem?_eq_some_iff.1 h2; simpa using hj j h1) ho⟩
end Go.Proofs.YtkbmkhhcppfcnaaGreatDoor
end
section
set_option linter.unusedVariables false
set_option linter.unusedSimpArgs false
set_option maxRecDepth 100000
set_option maxHeartbeats 1000000
namespace Go.Proofs.YtkbmkhhcppfcnaaGreatDoor
open Go.Al Go.RowKit
theorem updF_none {seq : Int} {f : Msg → Msg} : ∀ {l : List Msg}, (∀ m ∈ l, m.seq ≠ seq) → updF seq f l = l
  | [], _ => rfl
  | m :: l, h => by rw [updF, if_neg (h m (by simp)), updF_none fun m' hm => h m' (by simp [hm])]
theorem updF_set {seq : Int} {f : Msg → Msg} : ∀ {l : List Msg} {i : Nat} {m : Msg}, (∀ j m', j < i → l[j]? = some m' → m'.seq ≠ seq) → l[i]? = some m → m.seq = seq → updF seq f l = l.set i (f m)
  | [], i, m, _, h, _ => by simp at h
  | a :: l, 0, m, _, h, hm => by simp at h; subst h; rw [updF, if_pos hm]; rfl
  | a :: l, i + 1, m, hj, h, hm => by
    rw [updF, if_neg (hj 0 a (by omega) (by simp)), updF_set (l := l) (i := i) (fun j m' h1 h2 => hj (j + 1) m' (by omega) (by simpa using h2)) (by simpa using h) hm]; rfl
theorem fm_set {q : List Msg} {i : Nat} (m : Msg) (h : i < q.length) : fm (q.set i m) = fm (q.take i) ++ mc m ++ fm (q.drop (i + 1)) := by
  have ga : (q.set i m)[i]? = some m := by simp [h]
  have := fm_split ga
  rw [this]
  congr 1
  · congr 1; rw [List.take_set_of_le (Nat.le_refl i)]
  · rw [List.drop_set_of_lt (Nat.lt_succ_self i)]
theorem msg_at (w0 : World) {f : FuncId} {g : List UInt8 → Msg → Msg} (hf : MsgW w0 f g) {τ σ : St} {bx br bm o : Nat} {x : Sub} {ac qv : AV} {ra rq : Option Nat} {seq : Int} {v : List UInt8} (hv : v.length ≤ 1000000) (hx : XAt τ σ bx x ac qv ra rq) (hp : PlaceAt τ σ bx x ra rq seq bm o) (hr : σ.box br = some (rd2 v (0, false))) (hrn : τ.box br = none) (hb : br ≠ bx) (h1 : ra ≠ some br) (h2 : rq ≠ some br) (h3 : br ≠ bm) :
    CallW Tryz.prog w0 f [.ptr bx 0, .ptr bm o, .ptr br 0] σ (fun r s => r = .tup [] ∧ XAt τ s bx { x with queue := updF seq (g v) x.queue } ac qv ra rq) := by
  cases hp with
  | found i m b o hrq hi hm hj ho =>
    subst ho
    cases hq : hx.q with
    | nil h0 => cases hrq
    | own b0 cap junk hbb hc hl =>
      cases hrq
      have hlt : i < x.queue.length := by obtain ⟨h, _⟩ := List.getElem?_eq_some_iff.1 hi; exact h
      have hs := fm_split hi
      have hbb' : σ.box bm = some (fm (x.queue.take i) ++ mc m ++ (fm (x.queue.drop (i + 1)) ++ junk)) := by
        rw [← List.append_assoc, ← hs]; exact hbb
      refine (hf v m bx bm br (fm (x.queue.take i)) _ σ hv hbb' hr (Ne.symm h3)).mono ?_
      rintro r s ⟨rfl, s', rfl⟩
      refine ⟨rfl, ?_⟩
      have hu := updF_set (f := g v) hj hi hm
      have hx1 := hx.other hrn hb h1 h2 (rd2 v s')
      refine ⟨le_setBox hx1.le (hx.qn _ rfl).1, by rw [setBox_ne (Ne.symm (hx.qn _ rfl).2)]; exact hx1.hbx, hx.bxn, hx1.a.set (fun e => hx.aq _ e rfl), ?_, hx.an, hx.qn, hx.aq⟩
      have e1 : ({ x with queue := updF seq (g v) x.queue } : Sub).queue = x.queue.set i (g v m) := hu
      rw [e1]
      have hw := RowV.own (σ := (σ.setBox br (rd2 v s')).setBox bm (fm (x.queue.take i) ++ mc (g v m) ++ (fm (x.queue.drop (i + 1)) ++ junk))) (sz := 8) (xs := (x.queue.set i (g v m)).map eMsg) bm cap junk (by rw [setBox_same, ← List.append_assoc, ← fm_set _ hlt]; rfl) (by simpa using hc) (by
        have e2 : ((x.queue.set i (g v m)).map eMsg).flatMap AV.cells = fm (x.queue.set i (g v m)) := rfl
        have e3 : (x.queue.map eMsg).flatMap AV.cells = fm x.queue := rfl
        rw [e3, List.length_append, fm_len] at hl
        rw [e2, List.length_append, fm_len, List.length_set]; exact hl)
      simpa using hw
  | lone bm hj hbm hn k1 k2 k3 =>
    refine (hf v (msg0 0) bx bm br [] [] σ hv (by simpa using hbm) hr (Ne.symm h3)).mono ?_
    rintro r s ⟨rfl, s', rfl⟩
    refine ⟨rfl, ?_⟩
    rw [updF_none hj]
    exact (hx.other hrn hb h1 h2 (rd2 v s')).other hn k1 k2 k3 _
def tell (t : UInt8) (seq : Int) (v : List UInt8) (x : Sub) : Sub :=
  if t = 97 then { x with acks := (gp2 v (n2 v (0, false)).1 (n2 v (0, false)).2 x.acks).1 }
  else if t = 98 then { x with queue := updF seq (mB v) (x.queue ++ [msg0 seq]) }
  else if t = 110 then { x with note := (t2 v (0, false) 30).1 }
  else if t = 113 then { x with queue := updF seq (mQ v) x.queue }
  else if t = 115 then sS v x
  else if t = 120 then { x with queue := updF seq (mX v) x.queue }
  else x
theorem add2_tell (x : Sub) (r : Row) : add2 x r = tell (parts r.key).t (parts r.key).seq r.val { x with id := (parts r.key).id } := rfl
def ReadT (w0 : World) (f : FuncId) (tag : UInt8) : Prop := ∀ (τ σ : St) (bx br bm o : Nat) (x : Sub) (ac qv : AV) (ra rq : Option Nat) (seq : Int) (v : List UInt8), v.length ≤ 1000000 → x.acks.length ≤ 1000000 → XAt τ σ bx (queued tag seq x) ac qv ra rq → PlaceAt τ σ bx (queued tag seq x) ra rq seq bm o → σ.box br = some (rd2 v (0, false)) → τ.box br = none → br ≠ bx → ra ≠ some br → rq ≠ some br → br ≠ bm →
  CallW Tryz.prog w0 f [.ptr bx 0, .ptr bm o, .ptr br 0] σ (fun r s => r = .tup [] ∧ ∃ ac' ra', XAt τ s bx (tell tag seq v x) ac' qv ra' rq)
theorem rT_a (w0 : World) : ReadT w0 81 97 := fun τ σ bx br bm o x ac qv ra rq seq v hv hn hx hp hr hrn h1 h2 h3 h4 => tA_any w0 v x ac qv ra rq τ bx br bm o σ hv hn hx hr hrn h1 h2 h3
theorem rT_b (w0 : World) : ReadT w0 83 98 := fun τ σ bx br bm o x ac qv ra rq seq v hv hn hx hp hr hrn h1 h2 h3 h4 => (msg_at w0 (tB_any w0) hv hx hp hr hrn h1 h2 h3 h4).mono fun r s ⟨e, h⟩ => ⟨e, _, _, h⟩
theorem rT_n (w0 : World) : ReadT w0 85 110 := fun τ σ bx br bm o x ac qv ra rq seq v hv hn hx hp hr hrn h1 h2 h3 h4 => (tN_any w0 v x ac qv bx br bm o σ hv hx.hbx hr (Ne.symm h1)).mono fun r s ⟨e, s', h⟩ => ⟨e, _, _, by subst h; exact (hx.other hrn h1 h2 h3 _).own _ rfl rfl⟩
theorem rT_q (w0 : World) : ReadT w0 86 113 := fun τ σ bx br bm o x ac qv ra rq seq v hv hn hx hp hr hrn h1 h2 h3 h4 => (msg_at w0 (tQ_any w0) hv hx hp hr hrn h1 h2 h3 h4).mono fun r s ⟨e, h⟩ => ⟨e, _, _, h⟩
theorem rT_s (w0 : World) : ReadT w0 87 115 := fun τ σ bx br bm o x ac qv ra rq seq v hv hn hx hp hr hrn h1 h2 h3 h4 => (tS_any w0 v x ac qv bx br bm o σ hv hx.hbx hr (Ne.symm h1)).mono fun r s ⟨e, s', h⟩ => ⟨e, _, _, by subst h; exact (hx.other hrn h1 h2 h3 _).own (sS v x) rfl rfl⟩
theorem rT_x (w0 : World) : ReadT w0 88 120 := fun τ σ bx br bm o x ac qv ra rq seq v hv hn hx hp hr hrn h1 h2 h3 h4 => (msg_at w0 (tX_any w0) hv hx hp hr hrn h1 h2 h3 h4).mono fun r s ⟨e, h⟩ => ⟨e, _, _, h⟩
end Go.Proofs.YtkbmkhhcppfcnaaGreatDoor
end
section
set_option linter.unusedVariables false
set_option linter.unusedSimpArgs false
namespace Go.Proofs.YtkbmkhhcppfcnaaGreatDoor
open Go.Al
structure F2 (x : Sub) (n m : Nat) : Prop where
  name : x.name.length ≤ 1000
  topic : x.topic.length ≤ 1000
  want : x.want.length ≤ 1000
  note : x.note.length ≤ 1000
  acks : x.acks.length ≤ n
  queue : x.queue.length ≤ m
  msgs : ∀ m ∈ x.queue, m.body.length ≤ 1000 ∧ m.attr.length ≤ 1000
theorem n2_step (v : List UInt8) (s : Nat × Bool) : (n2 v s).2.2 = false → s.1 < (n2 v s).2.1 ∧ (n2 v s).2.1 ≤ v.length := by
  unfold n2
  split
  · intro h; cases h
  · rename_i hc
    intro _
    simp at hc
    exact ⟨getNum_gt v s.1 hc.2, (getNum_le v s.1).1⟩
theorem g2_len : ∀ (v : List UInt8) (n : Nat) (s : Nat × Bool) (acc : List Int), (s.2 = false → s.1 ≤ v.length) → (gp2 v n s acc).1.length ≤ acc.length + (v.length - s.1) + 1
  | v, 0, s, acc, _ => by simp [gp2]; omega
  | v, n + 1, s, acc, h => by
    rw [gp2]
    split
    · simp; omega
    · rename_i hs
      have hs' : s.2 = false := by simpa using hs
      have h0 := h hs'
      by_cases hb : (n2 v s).2.2 = false
      · have h1 := n2_step v s hb
        have := g2_len v n (n2 v s).2 (acc ++ [((n2 v s).1 : Int)]) (fun _ => h1.2)
        rw [List.length_append, List.length_singleton] at this
        omega
      · have hb' : (n2 v s).2.2 = true := by simpa using hb
        cases n with
        | zero => simp [gp2]
        | succ n => rw [gp2, if_pos hb']; simp
theorem updF_len (seq : Int) (f : Msg → Msg) : ∀ l : List Msg, (updF seq f l).length = l.length
  | [] => rfl
  | m :: l => by rw [updF]; split <;> simp [updF_len seq f l]
theorem updF_mem (seq : Int) (f : Msg → Msg) : ∀ (l : List Msg) (m : Msg), m ∈ updF seq f l → m ∈ l ∨ ∃ m' ∈ l, m = f m'
  | [], m, h => by simp [updF] at h
  | a :: l, m, h => by
    rw [updF] at h
    split at h
    · rcases List.mem_cons.1 h with rfl | h
      · exact .inr ⟨a, by simp, rfl⟩
      · exact .inl (by simp [h])
    · rcases List.mem_cons.1 h with rfl | h
      · exact .inl (by simp)
      · rcases updF_mem seq f l m h with h | ⟨m', h1, h2⟩
        · exact .inl (by simp [h])
        · exact .inr ⟨m', by simp [h1], h2⟩
theorem upd_fit {seq : Int} {f : Msg → Msg} {l : List Msg} (h : ∀ m ∈ l, m.body.length ≤ 1000 ∧ m.attr.length ≤ 1000) (hf : ∀ m : Msg, m.body.length ≤ 1000 ∧ m.attr.length ≤ 1000 → (f m).body.length ≤ 1000 ∧ (f m).attr.length ≤ 1000) : ∀ m ∈ updF seq f l, m.body.length ≤ 1000 ∧ m.attr.length ≤ 1000 := fun m hm => by
  rcases updF_mem seq f l m hm with h1 | ⟨m', h1, rfl⟩
  · exact h m h1
  · exact hf m' (h m' h1)
theorem add2_fit {x : Sub} {n m : Nat} (h : F2 x n m) (r : Row) : F2 (add2 x r) (n + r.val.length + 1) (m + 1) := by
  have ha := h.acks
  have hq := h.queue
  have tl := fun s k => t2_len r.val s k
  unfold add2
  dsimp only
  split
  · refine ⟨h.name, h.topic, h.want, h.note, ?_, by show x.queue.length ≤ m + 1; omega, h.msgs⟩
    have := g2_len r.val (n2 r.val (0, false)).1 (n2 r.val (0, false)).2 x.acks (fun hf => (n2_step r.val (0, false) hf).2)
    show (gp2 _ _ _ _).1.length ≤ _
    omega
  · split
    · refine ⟨h.name, h.topic, h.want, h.note, by show x.acks.length ≤ _; omega, by show (updF _ _ _).length ≤ _; rw [updF_len]; simp; omega, upd_fit (fun m hm => ?_) fun m hm => ⟨Nat.le_trans (tl _ _) (by decide), hm.2⟩⟩
      rcases List.mem_append.1 hm with hm | hm
      · exact h.msgs m hm
      · obtain rfl := List.mem_singleton.1 hm; simp [msg0]
    · split
      · exact ⟨h.name, h.topic, h.want, Nat.le_trans (tl _ _) (by decide), by show x.acks.length ≤ _; omega, by show x.queue.length ≤ m + 1; omega, h.msgs⟩
      · split
        · exact ⟨h.name, h.topic, h.want, h.note, by show x.acks.length ≤ _; omega, by show (updF _ _ _).length ≤ _; rw [updF_len]; omega, upd_fit h.msgs fun m hm => ⟨hm.1, Nat.le_trans (tl _ _) (by decide)⟩⟩
        · split
          · exact ⟨Nat.le_trans (tl _ _) (by decide), Nat.le_trans (tl _ _) (by decide), Nat.le_trans (tl _ _) (by decide), h.note, by show x.acks.length ≤ _; omega, by show x.queue.length ≤ m + 1; omega, h.msgs⟩
          · split
            · exact ⟨h.name, h.topic, h.want, h.note, by show x.acks.length ≤ _; omega, by show (updF _ _ _).length ≤ _; rw [updF_len]; omega, upd_fit h.msgs fun m hm => hm⟩
            · exact ⟨h.name, h.topic, h.want, h.note, by show x.acks.length ≤ _; omega, by show x.queue.length ≤ m + 1; omega, h.msgs⟩
theorem rows2_snoc {l : List Row} {i : Nat} {r : Row} (h : l[i]? = some r) : rows2 (l.take (i + 1)) = add2 (rows2 (l.take i)) r := by
  rw [take_snoc h, rows2, List.foldl_append]; rfl
theorem rows2_fit (l : List Row) : ∀ i, i ≤ l.length → F2 (rows2 (l.take i)) (tot (l.take i)) i
  | 0, _ => ⟨by simp [rows2, sub0], by simp [rows2, sub0], by simp [rows2, sub0], by simp [rows2, sub0], by simp [rows2, sub0], by simp [rows2, sub0], by simp [rows2, sub0]⟩
  | i + 1, hi => by
    have h := rows2_fit l i (by omega)
    have hg : l[i]? = some l[i] := by simp [show i < l.length by omega]
    rw [rows2_snoc hg, tot_take hg]
    exact add2_fit h l[i]
theorem fin2_fits (l : List Row) (h : tot l ≤ 100000) : Fits (fin2 l) := by
  have hf := rows2_fit l l.length (Nat.le_refl _)
  have hl := tot_len l
  have ht := hf.acks
  have hq := hf.queue
  rw [List.take_length] at hf ht hq
  exact ⟨hf.name, hf.topic, hf.want, hf.note, by show (runUp _ _).length ≤ _; rw [runUp_len]; omega, by show (rows2 l).queue.length ≤ _; omega, hf.msgs⟩
end Go.Proofs.YtkbmkhhcppfcnaaGreatDoor
end
