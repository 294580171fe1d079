/-
  ExecuteSteps.
-/
import Derived.Test.YtgkmagfajalnhaaSERuns
import Derived.Test.YtgkmagfajalnhaaSERowExecuteSteps
namespace Go.Proofs.Ytgkmagfajalnhaa.E
open Go.RowKit Go.Proofs.YtgkmagfajalnhaaW.PrintWords Go.Proofs.YtgkmagfajalnhaaW.PrintLast Go.Proofs.YtgkmagfajalnhaaW.PrintMore Num
set_option linter.unusedVariables false
set_option linter.unusedSimpArgs false

theorem steps_loop {fr fs a0 : Int} {l : List S69} (V : ValidP fr fs l) {l1 : List Int} (ha : (l1.length : Int) = a0) (h1 : a0 ≤ fs) {n : Int} (hn0 : 0 ≤ n) (hn : n ≤ 100) {r : PS}
    (hE : Ev (fun k => execute_Exec.f k a0 fr fs l l1 n) (r.st, r.blk, r.at_, r.val, r.regs, r.slots, r.trace, r.steps, 0)) (R : Ran fr fs l n (beginP fr fs l1) r) :
    ∀ (d : Nat) (i : Int) (s : PS), 0 ≤ i → i ≤ n → (n - i).toNat = d → Inv fr fs l s → s.steps ≤ i → (s.st = 0 → s.steps = i) → (∃ k, execLoop k l n s = some r) →
      Ev (fun k => regcertlaw10_ExecuteSteps.l0 k l1 n i a0 fr fs l s.st s.blk s.at_ s.val s.regs s.slots s.trace s.steps) true := by
  intro d
  induction d with
  | zero =>
    intro i s i0 i1 hd I hs hz hk
    have hir : s = r := by
      obtain ⟨k, hk⟩ := hk
      by_cases h0 : s.st = 0
      · cases k with
        | zero => cases hk
        | succ k =>
          unfold execLoop at hk
          rw [if_pos h0, if_neg (by have := hz h0; omega)] at hk
          exact Option.some.inj hk
      · exact (exec_done l h0 hk).symm
    subst hir
    refine Ev.step (fun k => by rw [regcertlaw10_ExecuteSteps.l0]) ?_
    refine Ev.neg (by omega) ?_
    refine Ev.bind hE ?_
    have hr := I.regs
    have hr1 := V.regs1
    have hl := I.slots
    have hl1 := V.slots1
    have ht := I.trace
    exact Ev.bind (same_refl _ _ _ _ _ _ _ _ (by omega) (by omega) (by omega)) (Ev.now _)
  | succ d ih =>
    intro i s i0 i1 hd I hs hz hk
    obtain ⟨s1, e1, I1, hg, hst⟩ := step_one (a0 := a0) V I (by omega)
    have hb0 := I.blk0
    have hb1 := I.blk1
    refine Ev.step (fun k => by rw [regcertlaw10_ExecuteSteps.l0]) ?_
    refine Ev.pos (by omega) (Ev.pos I.regs (Ev.pos I.slots (Ev.neg (by omega) ?_)))
    rw [show decide (s.blk ≥ (l.length : Int)) = false from decide_eq_false (by omega)]
    refine Ev.step (fun k => by rw [regcertlaw10_ExecuteSteps.j2]) ?_
    refine Ev.neg (by simp) ?_
    refine Ev.bindc e1 ?_
    rw [show wrap64 (i + 1) = i + 1 from w64s (by omega) (by omega)]
    refine ih (i + 1) s1 (by omega) (by omega) (by omega) I1 ?_ ?_ ?_
    · by_cases h0 : s.st = 0
      · rcases (hg h0).2 with q | ⟨_, q⟩ <;> omega
      · rw [hst h0]
        omega
    · intro h2
      by_cases h0 : s.st = 0
      · have := hz h0
        rcases (hg h0).2 with q | ⟨q, _⟩ <;> omega
      · rw [hst h0] at h2
        exact absurd h2 h0
    · obtain ⟨k, hk⟩ := hk
      by_cases h0 : s.st = 0
      · cases k with
        | zero => cases hk
        | succ k =>
          unfold execLoop at hk
          rw [if_pos h0, if_pos (by have := hz h0; omega), (hg h0).1, Option.bind_some] at hk
          exact ⟨k, hk⟩
      · rw [hst h0]
        exact ⟨k, hk⟩

theorem steps_pure (x0 : S63) (l1 : List Int) (a2 : Int) (h64 : I64L x0.f3) (h2 : 0 ≤ a2 ∧ a2 ≤ 255) : Ev (fun k => regcertlaw10_ExecuteSteps.f k x0.f0 x0.f1 x0.f2 x0.f3 l1 a2) true := by
  obtain ⟨a0, a1, a2', l⟩ := x0
  dsimp only at h64 ⊢
  refine Ev.congr (fun k => by rw [regcertlaw10_ExecuteSteps.f]) ?_
  refine Ev.bind awake10 (Ev.pos rfl ?_)
  obtain ⟨b, hb, hv⟩ := right_evs a0 a1 a2' l h64 l1 0
  have out : Ev (fun k => regcertlaw10_ExecuteSteps.j0 k l1 a2 true a0 a1 a2' l) true := by
    refine Ev.step (fun k => by rw [regcertlaw10_ExecuteSteps.j0]) ?_
    exact Ev.pos rfl (Ev.bind awake10 (Ev.now _))
  refine Ev.bind hb ?_
  by_cases hbt : b = true
  · refine Ev.pos hbt ?_
    obtain ⟨V, v0, v1, _, _⟩ := hv hbt
    by_cases hl : (l1.length : Int) = a0
    · rw [show ((l1.length : Int) != a0) = false by simp [hl]]
      refine Ev.step (fun k => by rw [regcertlaw10_ExecuteSteps.j0]) ?_
      refine Ev.neg (by simp) ?_
      rw [w64s (n := a2) (by omega) (by omega), Int.tmod_eq_emod_of_nonneg h2.1]
      have n0 : 0 ≤ a2 % 60 ∧ a2 % 60 < 60 := by omega
      generalize a2 % 60 = n at n0
      have h0 := V.regs0
      have h60 := V.regs1
      have h2' := V.slots0
      have h62 := V.slots1
      obtain ⟨r, er, R, hk⟩ := exec_ev V hl v1 n0.1 (by omega)
      refine Ev.bindc (a := ((0 : Int), (0 : Int), (0 : Int), (0 : Int), (beginP a1 a2' l1).regs, (beginP a1 a2' l1).slots, ([] : List Int), (0 : Int), (0 : Int))) ?_ ?_
      · unfold execute_Start.f
        rw [if_pos hl, if_pos ⟨h0, by omega, h2', by omega⟩]
      · exact steps_loop V hl v1 n0.1 (by omega) er R _ 0 (beginP a1 a2' l1) (by omega) n0.1 rfl (begin_inv V (by omega)) (Int.le_refl _) (fun _ => rfl) hk
    · rw [show ((l1.length : Int) != a0) = true by simp [hl]]
      exact out
  · exact Ev.neg hbt out
end Go.Proofs.Ytgkmagfajalnhaa.E
namespace Go.Proofs.Ytgkmagfajalnhaa
theorem executeSteps_holds : Rows.ExecuteStepsSaid := executeSteps.over fun x0 l1 a2 h0 _ h2 => (E.steps_pure x0 l1 a2 (E.good_loc h0.2.2.2.2) (bounds_u8 h2)).rounds
end Go.Proofs.Ytgkmagfajalnhaa
