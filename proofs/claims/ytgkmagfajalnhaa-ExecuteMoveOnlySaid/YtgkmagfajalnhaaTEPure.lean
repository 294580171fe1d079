/-
  Runs of the interpreter as plain functions: what holds of them.
-/
import Derived.Test.YtgkmagfajalnhaaTEExec
import Derived.Test.YtgkmagfajalnhaaTXNum
namespace Go.Proofs.Ytgkmagfajalnhaa.E
open Go.RowKit Go.Proofs.YtgkmagfajalnhaaW.PrintWords Go.Proofs.YtgkmagfajalnhaaW.PrintLast Go.Proofs.YtgkmagfajalnhaaW.PrintMore

def LocR (fr fs l : Int) : Prop := 0 ≤ l ∧ 0 ≤ wrap64 (Int.tdiv l 2) ∧ wrap64 (Int.tdiv l 2) < (if (Int.tmod l 2 == 1) = true then fs else fr)
def InstrOK (fr fs : Int) (i : S84) : Prop := (i.f0 = 18 → LocR fr fs i.f5 ∧ LocR fr fs i.f6) ∧ (i.f0 = 17 → 0 ≤ i.f2 ∧ i.f2 < fr) ∧ (i.f0 ≠ 18 → i.f0 ≠ 17 → (0 ≤ i.f1 ∧ i.f1 < fr) ∧ (0 ≤ i.f2 ∧ i.f2 < fr) ∧ (0 ≤ i.f3 ∧ i.f3 < fr))
def TermOK (fr n : Int) (t : S48) : Prop := (t.f0 = 3 → 0 ≤ t.f1 ∧ t.f1 < fr) ∧ (t.f0 = 1 → 0 ≤ t.f2 ∧ t.f2 < n) ∧ (t.f0 ≠ 3 → t.f0 ≠ 1 → t.f0 = 2 ∧ (0 ≤ t.f1 ∧ t.f1 < fr) ∧ (0 ≤ t.f2 ∧ t.f2 < n) ∧ (0 ≤ t.f3 ∧ t.f3 < n))
def BlockOK (fr fs n : Int) (b : S69) : Prop := b.f0.length ≤ 300 ∧ (∀ j : Int, 0 ≤ j → j < b.f0.length → InstrOK fr fs (rd_T84 b.f0 j)) ∧ TermOK fr n b.f1
structure ValidP (fr fs : Int) (l : List S69) : Prop where
  some_ : 0 < l.length
  few : l.length ≤ 40
  regs0 : 0 ≤ fr
  regs1 : fr ≤ 60
  slots0 : 0 ≤ fs
  slots1 : fs ≤ 60
  blocks : ∀ i : Int, 0 ≤ i → i < l.length → BlockOK fr fs l.length (rd_T69 l i)
structure Inv (fr fs : Int) (l : List S69) (s : PS) : Prop where
  regs : (s.regs.length : Int) = fr
  slots : (s.slots.length : Int) = fs
  blk0 : 0 ≤ s.blk
  blk1 : s.blk < l.length
  at0 : 0 ≤ s.at_
  at1 : s.at_ ≤ ((rd_T69 l s.blk).f0).length
  steps : 0 ≤ s.steps
  trace : (s.trace.length : Int) ≤ s.steps
theorem setLoc_len (s : PS) (l x : Int) : (setLoc s l x).regs.length = s.regs.length ∧ (setLoc s l x).slots.length = s.slots.length := by
  unfold setLoc
  split <;> simp
theorem locR_ok {fr fs : Int} {s : PS} (hr : (s.regs.length : Int) = fr) (hs : (s.slots.length : Int) = fs) {l : Int} (h : LocR fr fs l) : LocOK s l := by
  unfold LocOK
  rw [hr, hs]
  exact h.2

theorem w64s {n : Int} (h0 : -9223372036854775808 ≤ n) (h1 : n ≤ 9223372036854775807) : wrap64 n = n := Num.w64_id ⟨by omega, by omega⟩

theorem step_ok {fr fs : Int} {l : List S69} (V : ValidP fr fs l) {s : PS} (I : Inv fr fs l s) (hb : s.steps ≤ 1000000) :
    ∃ s1, stepP l s = some s1 ∧ Inv fr fs l s1 ∧ s.trace <+: s1.trace ∧ ((s1.steps = s.steps + 1) ∨ (s1.st = 2 ∧ s1.steps = s.steps)) := by
  obtain ⟨hc, hi, ht⟩ := V.blocks s.blk I.blk0 I.blk1
  have hreg := I.regs
  have hslo := I.slots
  have hat := I.at0
  have hat1 := I.at1
  have hst := I.steps
  have htr := I.trace
  have ws : wrap64 (s.steps + 1) = s.steps + 1 := w64s (by omega) (by omega)
  have wa : wrap64 (s.at_ + 1) = s.at_ + 1 := w64s (by omega) (by omega)
  unfold stepP
  rw [if_pos ⟨I.blk0, I.blk1⟩]
  by_cases ha : s.at_ < ((rd_T69 l s.blk).f0).length
  · rw [if_pos ha, if_pos hat]
    obtain ⟨h18, h17, hn⟩ := hi s.at_ hat ha
    generalize rd_T84 (rd_T69 l s.blk).f0 s.at_ = i at h18 h17 hn
    unfold instrP
    by_cases hm : i.f0 = 18
    · obtain ⟨hd, hsr⟩ := h18 hm
      rw [if_pos hm, if_pos ⟨locR_ok hreg hslo hd, locR_ok hreg hslo hsr⟩]
      obtain ⟨e1, e2, e3, e4, e5, e6⟩ := setLoc_rest s i.f5 (locP s i.f6)
      obtain ⟨g1, g2⟩ := setLoc_len s i.f5 (locP s i.f6)
      refine ⟨_, rfl, ⟨?_, ?_, ?_, ?_, ?_, ?_, ?_, ?_⟩, ?_, .inl ?_⟩
      · show ((setLoc s i.f5 (locP s i.f6)).regs.length : Int) = fr
        rw [g1]; exact hreg
      · show ((setLoc s i.f5 (locP s i.f6)).slots.length : Int) = fs
        rw [g2]; exact hslo
      · show 0 ≤ (setLoc s i.f5 (locP s i.f6)).blk
        rw [e2]; exact I.blk0
      · show (setLoc s i.f5 (locP s i.f6)).blk < l.length
        rw [e2]; exact I.blk1
      · show 0 ≤ wrap64 ((setLoc s i.f5 (locP s i.f6)).at_ + 1)
        rw [e3]; omega
      · show wrap64 ((setLoc s i.f5 (locP s i.f6)).at_ + 1) ≤ ((rd_T69 l (setLoc s i.f5 (locP s i.f6)).blk).f0).length
        rw [e2, e3]; omega
      · show 0 ≤ wrap64 ((setLoc s i.f5 (locP s i.f6)).steps + 1)
        rw [e6]; omega
      · show ((setLoc s i.f5 (locP s i.f6)).trace.length : Int) ≤ wrap64 ((setLoc s i.f5 (locP s i.f6)).steps + 1)
        rw [e5, e6]; omega
      · show s.trace <+: (setLoc s i.f5 (locP s i.f6)).trace
        rw [e5]; exact List.prefix_refl _
      · show wrap64 ((setLoc s i.f5 (locP s i.f6)).steps + 1) = s.steps + 1
        rw [e6]; exact ws
    rw [if_neg hm]
    by_cases ho : i.f0 = 17
    · obtain ⟨h1, h2⟩ := h17 ho
      rw [if_pos ho, if_pos ⟨h1, by omega, by omega⟩]
      refine ⟨_, rfl, ⟨hreg, hslo, I.blk0, I.blk1, ?_, ?_, ?_, ?_⟩, List.prefix_append _ _, .inl ws⟩
      · show 0 ≤ wrap64 (s.at_ + 1); omega
      · show wrap64 (s.at_ + 1) ≤ ((rd_T69 l s.blk).f0).length; omega
      · show 0 ≤ wrap64 (s.steps + 1); omega
      · show ((s.trace ++ [rdOf (0 : Int) s.regs i.f2]).length : Int) ≤ wrap64 (s.steps + 1)
        rw [List.length_append, ws]; simp; omega
    · obtain ⟨⟨d0, d1⟩, ⟨a0, a1⟩, b0, b1⟩ := hn hm ho
      rw [if_neg ho, if_pos ⟨a0, by omega, b0, by omega⟩]
      generalize hv : X.aluEval i.f0 (rdOf 0 s.regs i.f2) (rdOf 0 s.regs i.f3) i.f4 = v
      rw [show X.alu_Eval.f i.f0 (rdOf 0 s.regs i.f2) (rdOf 0 s.regs i.f3) i.f4 = some v from by rw [← hv]; rfl]
      rw [Option.bind_some]
      by_cases hk : v.2 = true
      · rw [if_pos hk, if_pos ⟨d0, by omega⟩]
        refine ⟨_, rfl, ⟨?_, hslo, I.blk0, I.blk1, ?_, ?_, ?_, ?_⟩, List.prefix_refl _, .inl ws⟩
        · show ((s.regs.set i.f1.toNat v.1).length : Int) = fr
          rw [List.length_set]; exact hreg
        · show 0 ≤ wrap64 (s.at_ + 1); omega
        · show wrap64 (s.at_ + 1) ≤ ((rd_T69 l s.blk).f0).length; omega
        · show 0 ≤ wrap64 (s.steps + 1); omega
        · show (s.trace.length : Int) ≤ wrap64 (s.steps + 1); omega
      · rw [if_neg hk]
        exact ⟨_, rfl, ⟨hreg, hslo, I.blk0, I.blk1, hat, hat1, hst, htr⟩, List.prefix_refl _, .inr ⟨rfl, rfl⟩⟩
  · rw [if_neg ha]
    obtain ⟨h3, h1, h2⟩ := ht
    generalize (rd_T69 l s.blk).f1 = t at h3 h2 h1
    unfold termP
    by_cases c3 : t.f0 = 3
    · obtain ⟨q0, q1⟩ := h3 c3
      rw [if_pos c3, if_pos ⟨q0, by omega⟩]
      refine ⟨_, rfl, ⟨hreg, hslo, I.blk0, I.blk1, hat, hat1, ?_, ?_⟩, List.prefix_refl _, .inl ws⟩
      · dsimp only; omega
      · dsimp only; omega
    · rw [if_neg c3]
      by_cases c1 : t.f0 = 1
      · obtain ⟨t0, t1⟩ := h1 c1
        rw [if_pos c1]
        refine ⟨_, rfl, ⟨hreg, hslo, t0, t1, by dsimp only; omega, by dsimp only; omega, ?_, ?_⟩, List.prefix_refl _, .inl ws⟩
        · dsimp only; omega
        · dsimp only; omega
      · obtain ⟨_, ⟨q0, q1⟩, ⟨t0, t1⟩, e0, e1⟩ := h2 c3 c1
        rw [if_neg c1, if_pos ⟨q0, by omega⟩]
        by_cases hz : rdOf 0 s.regs t.f1 = 0
        · rw [if_pos hz]
          refine ⟨_, rfl, ⟨hreg, hslo, e0, e1, by dsimp only; omega, by dsimp only; omega, ?_, ?_⟩, List.prefix_refl _, .inl ws⟩
          · dsimp only; omega
          · dsimp only; omega
        · rw [if_neg hz]
          refine ⟨_, rfl, ⟨hreg, hslo, t0, t1, by dsimp only; omega, by dsimp only; omega, ?_, ?_⟩, List.prefix_refl _, .inl ws⟩
          · dsimp only; omega
          · dsimp only; omega

structure Ran (fr fs : Int) (l : List S69) (m : Int) (s r : PS) : Prop where
  inv : Inv fr fs l r
  trace : s.trace <+: r.trace
  steps : s.steps ≤ r.steps
  upto : r.steps ≤ m
  full : r.st = 0 → r.steps = m

theorem exec_ran {fr fs : Int} {l : List S69} (V : ValidP fr fs l) {m : Int} (hm : m ≤ 1000000) :
    ∀ (n : Nat) (s : PS), Inv fr fs l s → s.steps ≤ m → (m - s.steps).toNat ≤ n → ∃ r, execLoop (n + 2) l m s = some r ∧ Ran fr fs l m s r := by
  intro n
  induction n with
  | zero =>
    intro s I hs hn
    unfold execLoop
    by_cases h0 : s.st = 0
    · rw [if_pos h0, if_neg (by omega)]
      exact ⟨s, rfl, I, List.prefix_refl _, Int.le_refl _, hs, fun _ => by omega⟩
    · rw [if_neg h0]
      exact ⟨s, rfl, I, List.prefix_refl _, Int.le_refl _, hs, fun h => absurd h h0⟩
  | succ n ih =>
    intro s I hs hn
    unfold execLoop
    by_cases h0 : s.st = 0
    · rw [if_pos h0]
      by_cases hl : s.steps < m
      · rw [if_pos hl]
        obtain ⟨s1, e1, I1, p1, hc⟩ := step_ok V I (by omega)
        rw [e1, Option.bind_some]
        rcases hc with hc | ⟨hz, hc⟩
        · obtain ⟨r, er, R⟩ := ih s1 I1 (by omega) (by omega)
          exact ⟨r, er, R.inv, p1.trans R.trace, by have := R.steps; omega, R.upto, R.full⟩
        · unfold execLoop
          rw [if_neg (by omega)]
          exact ⟨s1, rfl, I1, p1, by omega, by omega, fun h => by omega⟩
      · rw [if_neg hl]
        exact ⟨s, rfl, I, List.prefix_refl _, Int.le_refl _, hs, fun _ => by omega⟩
    · rw [if_neg h0]
      exact ⟨s, rfl, I, List.prefix_refl _, Int.le_refl _, hs, fun h => absurd h h0⟩

theorem execLoop_le (l : List S69) (m : Int) {k k1 : Nat} (h : k ≤ k1) {s r : PS} (e : execLoop k l m s = some r) : execLoop k1 l m s = some r := by
  induction h with
  | refl => exact e
  | step _ ih => exact execLoop_mono l m _ s r ih

theorem begin_inv {fr fs : Int} {l : List S69} (V : ValidP fr fs l) {l1 : List Int} (h : (l1.length : Int) ≤ fs) : Inv fr fs l (beginP fr fs l1) := by
  have hr := V.regs0
  have hr2 := V.slots0
  have hs := V.some_
  refine ⟨?_, ?_, Int.le_refl _, by show (0 : Int) < l.length; omega, Int.le_refl _, by show (0 : Int) ≤ _; omega, Int.le_refl _, by show ((0 : Nat) : Int) ≤ 0; omega⟩
  · show ((List.replicate fr.toNat (0 : Int)).length : Int) = fr
    rw [List.length_replicate]
    omega
  · show ((l1.take (min l1.length fs.toNat) ++ (List.replicate fs.toNat (0 : Int)).drop (min l1.length fs.toNat)).length : Int) = fs
    rw [List.length_append, List.length_take, List.length_drop, List.length_replicate]
    omega
end Go.Proofs.Ytgkmagfajalnhaa.E
