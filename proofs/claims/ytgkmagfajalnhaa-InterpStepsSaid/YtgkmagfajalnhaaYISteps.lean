/-
  InterpSteps.
-/
import Derived.Test.YtgkmagfajalnhaaYIValid
import Derived.Test.YtgkmagfajalnhaaYRowInterpSteps
namespace Go.Proofs.Ytgkmagfajalnhaa.Y
open Go.RowKit Go.Proofs.YtgkmagfajalnhaaW.PrintWords Go.Proofs.YtgkmagfajalnhaaW.PrintLast Go.Proofs.YtgkmagfajalnhaaW.PrintMore Num
set_option linter.unusedVariables false
set_option linter.unusedSimpArgs false

theorem awake09 : Ev (fun k => regcertlaw09_awake.f k) true := Ev.of (fun k => regcertlaw09_awake.mono k) (k := 40) (by kernel_rfl)

theorem exec_ev {fr : Int} {l : List S50} (V : ValidP fr l) {l1 : List Int} {a0 m : Int} (ha : (l1.length : Int) = a0) (h1 : a0 ≤ fr) (hm0 : 0 ≤ m) (hm : m ≤ 1000000) :
    ∃ r, Ev (fun k => interp_Exec.f k a0 fr l l1 m) (r.st, r.blk, r.at_, r.val, r.regs, [], r.trace, r.steps, 0) ∧ Ran fr l m (beginP fr l1) r ∧ ∃ k, execLoop k l m (beginP fr l1) = some r := by
  have hf : fuelOf m = m := if_neg (by omega)
  obtain ⟨r, er, R⟩ := exec_ran V hm (m.toNat) (beginP fr l1) (begin_inv V (by omega)) hm0 (by show (m - 0).toNat ≤ _; omega)
  have h0 := V.regs0
  have h60 := V.regs1
  refine ⟨r, ⟨m.toNat + 2, fun k hk => ?_⟩, R, _, er⟩
  unfold interp_Exec.f
  dsimp only
  rw [if_pos ha, if_pos ⟨h0, by omega⟩, hf, execLoop_le l m hk er]
  rfl

theorem same_refl (a b c d e : Int) (x y z : List Int) (hx : x.length ≤ 1000000) (hy : y.length ≤ 1000000) (hz : z.length ≤ 1000000) : Ev (fun k => regcertref09_Same.f k a b c d x y z e a b c d x y z e) true := by
  refine Ev.congr (fun k => by rw [regcertref09_Same.f]) ?_
  refine Ev.pos rfl (Ev.pos rfl (Ev.pos rfl (Ev.pos rfl (Ev.pos rfl ?_))))
  refine Ev.bind (values_refl x hx) (Ev.pos rfl ?_)
  refine Ev.bind (values_refl y hy) (Ev.pos rfl ?_)
  exact Ev.bind (values_refl z hz) (Ev.now _)

/-- What Step answers at a run that holds what runs hold. -/
theorem step_one {fr a0 : Int} {l : List S50} (V : ValidP fr l) {s : PS} (I : Inv fr l s) (hb : s.steps ≤ 1000) : ∃ s1, interp_Step.f a0 fr l s.st s.blk s.at_ s.val s.regs [] s.trace s.steps = some (s1.st, s1.blk, s1.at_, s1.val, s1.regs, [], s1.trace, s1.steps) ∧
    Inv fr l s1 ∧ (s.st = 0 → stepP l s = some s1 ∧ ((s1.steps = s.steps + 1) ∨ (s1.st = 2 ∧ s1.steps = s.steps))) ∧ (s.st ≠ 0 → s1 = s) := by
  have hr := I.regs
  have hr1 := V.regs1
  have ht := I.trace
  unfold interp_Step.f
  rw [if_pos ⟨rfl, by omega, by omega⟩]
  by_cases h0 : s.st = 0
  · obtain ⟨s1, e1, I1, p1, hc⟩ := step_ok V I (by omega)
    rw [if_pos h0]
    refine ⟨s1, ?_, I1, fun _ => ⟨e1, hc⟩, fun h => absurd h0 h⟩
    show (stepP l s).bind _ = _
    rw [e1]
    rfl
  · rw [if_neg h0]
    exact ⟨s, rfl, I, fun h => absurd h h0, fun _ => rfl⟩

theorem steps_loop {fr a0 : Int} {l : List S50} (V : ValidP fr l) {l1 : List Int} (ha : (l1.length : Int) = a0) (h1 : a0 ≤ fr) {n : Int} (hn0 : 0 ≤ n) (hn : n ≤ 100) {r : PS}
    (hE : Ev (fun k => interp_Exec.f k a0 fr l l1 n) (r.st, r.blk, r.at_, r.val, r.regs, [], r.trace, r.steps, 0)) (R : Ran fr l n (beginP fr l1) r) :
    ∀ (d : Nat) (i : Int) (s : PS), 0 ≤ i → i ≤ n → (n - i).toNat = d → Inv fr l s → s.steps ≤ i → (s.st = 0 → s.steps = i) → (∃ k, execLoop k l n s = some r) →
      Ev (fun k => regcertlaw09_InterpSteps.l0 k l1 n i a0 fr l s.st s.blk s.at_ s.val s.regs [] s.trace s.steps) true := by
  intro d
  induction d with
  | zero =>
    intro i s i0 i1 hd I hs hz hk
    have hir : s = r := by
      obtain ⟨k, hk⟩ := hk
      by_cases h0 : s.st = 0
      · cases k with
        | zero => cases hk
        | succ k =>
          unfold execLoop at hk
          rw [if_pos h0, if_neg (by have := hz h0; omega)] at hk
          exact Option.some.inj hk
      · exact (exec_done l h0 hk).symm
    subst hir
    refine Ev.step (fun k => by rw [regcertlaw09_InterpSteps.l0]) ?_
    refine Ev.neg (by omega) ?_
    refine Ev.bind hE ?_
    have hr := I.regs
    have hr1 := V.regs1
    have ht := I.trace
    exact Ev.bind (same_refl _ _ _ _ _ _ _ _ (by omega) (by simp) (by omega)) (Ev.now _)
  | succ d ih =>
    intro i s i0 i1 hd I hs hz hk
    obtain ⟨s1, e1, I1, hg, hst⟩ := step_one (a0 := a0) V I (by omega)
    have hb0 := I.blk0
    have hb1 := I.blk1
    refine Ev.step (fun k => by rw [regcertlaw09_InterpSteps.l0]) ?_
    refine Ev.pos (by omega) (Ev.pos I.regs (Ev.neg (by omega) ?_))
    rw [show decide (s.blk ≥ (l.length : Int)) = false from decide_eq_false (by omega)]
    refine Ev.step (fun k => by rw [regcertlaw09_InterpSteps.j2]) ?_
    refine Ev.neg (by simp) ?_
    refine Ev.bindc e1 ?_
    rw [show wrap64 (i + 1) = i + 1 from w64s (by omega) (by omega)]
    refine ih (i + 1) s1 (by omega) (by omega) (by omega) I1 ?_ ?_ ?_
    · by_cases h0 : s.st = 0
      · rcases (hg h0).2 with q | ⟨_, q⟩ <;> omega
      · rw [hst h0]
        omega
    · intro h2
      by_cases h0 : s.st = 0
      · have := hz h0
        rcases (hg h0).2 with q | ⟨q, _⟩ <;> omega
      · rw [hst h0] at h2
        exact absurd h2 h0
    · obtain ⟨k, hk⟩ := hk
      by_cases h0 : s.st = 0
      · cases k with
        | zero => cases hk
        | succ k =>
          unfold execLoop at hk
          rw [if_pos h0, if_pos (by have := hz h0; omega), (hg h0).1, Option.bind_some] at hk
          exact ⟨k, hk⟩
      · rw [hst h0]
        exact ⟨k, hk⟩

theorem steps_pure (x0 : S34) (l1 : List Int) (a2 : Int) (h2 : 0 ≤ a2 ∧ a2 ≤ 255) : Ev (fun k => regcertlaw09_InterpSteps.f k x0.f0 x0.f1 x0.f2 l1 a2) true := by
  obtain ⟨a0, a1, l⟩ := x0
  dsimp only
  refine Ev.congr (fun k => by rw [regcertlaw09_InterpSteps.f]) ?_
  refine Ev.bind awake09 (Ev.pos rfl ?_)
  obtain ⟨b, hb, hv⟩ := ev_right (a0 := a0) (a1 := a1) (l := l) (l1 := l1) (a2 := 0)
  have out : Ev (fun k => regcertlaw09_InterpSteps.j0 k l1 a2 true a0 a1 l) true := by
    refine Ev.step (fun k => by rw [regcertlaw09_InterpSteps.j0]) ?_
    exact Ev.pos rfl (Ev.bind awake09 (Ev.now _))
  refine Ev.bind hb ?_
  by_cases hbt : b = true
  · refine Ev.pos hbt ?_
    obtain ⟨V, v0, v1, _, _⟩ := hv hbt
    by_cases hl : (l1.length : Int) = a0
    · rw [show ((l1.length : Int) != a0) = false by simp [hl]]
      refine Ev.step (fun k => by rw [regcertlaw09_InterpSteps.j0]) ?_
      refine Ev.neg (by simp) ?_
      rw [w64s (n := a2) (by omega) (by omega), Int.tmod_eq_emod_of_nonneg h2.1]
      have n0 : 0 ≤ a2 % 60 ∧ a2 % 60 < 60 := by omega
      generalize a2 % 60 = n at n0
      have h0 := V.regs0
      have h60 := V.regs1
      obtain ⟨r, er, R, hk⟩ := exec_ev V hl v1 n0.1 (by omega)
      refine Ev.bindc (a := ((0 : Int), (0 : Int), (0 : Int), (0 : Int), (beginP a1 l1).regs, ([] : List Int), ([] : List Int), (0 : Int), (0 : Int))) ?_ ?_
      · unfold interp_Start.f
        rw [if_pos hl, if_pos ⟨h0, by omega⟩]
      · exact steps_loop V hl v1 n0.1 (by omega) er R _ 0 (beginP a1 l1) (by omega) n0.1 rfl (begin_inv V (by omega)) (Int.le_refl _) (fun _ => rfl) hk
    · rw [show ((l1.length : Int) != a0) = true by simp [hl]]
      exact out
  · exact Ev.neg hbt out
end Go.Proofs.Ytgkmagfajalnhaa.Y
namespace Go.Proofs.Ytgkmagfajalnhaa
theorem interpSteps_holds : Rows.InterpStepsSaid := interpSteps.over fun x0 l1 a2 _ _ h2 => (Y.steps_pure x0 l1 a2 (bounds_u8 h2)).rounds
end Go.Proofs.Ytgkmagfajalnhaa
