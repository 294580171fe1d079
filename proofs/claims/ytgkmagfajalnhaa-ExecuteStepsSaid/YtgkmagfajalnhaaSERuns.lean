/-
  What the runs answer, for the laws.
-/
import Derived.Test.YtgkmagfajalnhaaSEValid
import Derived.Test.YtgkmagfajalnhaaSEAwk
import Derived.Test.YtgkmagfajalnhaaSEStepE
namespace Go.Proofs.Ytgkmagfajalnhaa.E
open Go.RowKit Go.Proofs.YtgkmagfajalnhaaW.PrintWords Go.Proofs.YtgkmagfajalnhaaW.PrintLast Go.Proofs.YtgkmagfajalnhaaW.PrintMore Num
set_option linter.unusedVariables false
set_option linter.unusedSimpArgs false

theorem awake10 : Ev (fun k => regcertlaw10_awake.f k) true := Ev.of (fun k => regcertlaw10_awake.mono k) (k := 40) (by kernel_rfl)

theorem exec_ev {fr fs : Int} {l : List S69} (V : ValidP fr fs l) {l1 : List Int} {a0 m : Int} (ha : (l1.length : Int) = a0) (h1 : a0 ≤ fs) (hm0 : 0 ≤ m) (hm : m ≤ 1000000) :
    ∃ r, Ev (fun k => execute_Exec.f k a0 fr fs l l1 m) (r.st, r.blk, r.at_, r.val, r.regs, r.slots, r.trace, r.steps, 0) ∧ Ran fr fs l m (beginP fr fs l1) r ∧ ∃ k, execLoop k l m (beginP fr fs l1) = some r := by
  have hf : fuelOf m = m := if_neg (by omega)
  obtain ⟨r, er, R⟩ := exec_ran V hm (m.toNat) (beginP fr fs l1) (begin_inv V (by omega)) hm0 (by show (m - 0).toNat ≤ _; omega)
  have h0 := V.regs0
  have h60 := V.regs1
  have h2 := V.slots0
  have h62 := V.slots1
  refine ⟨r, ⟨m.toNat + 2, fun k hk => ?_⟩, R, _, er⟩
  unfold execute_Exec.f
  dsimp only
  rw [if_pos ha, if_pos ⟨h0, by omega, h2, by omega⟩, hf, execLoop_le l m hk er]
  rfl

theorem same_refl (a b c d e : Int) (x y z : List Int) (hx : x.length ≤ 1000000) (hy : y.length ≤ 1000000) (hz : z.length ≤ 1000000) : Ev (fun k => regcertref09_Same.f k a b c d x y z e a b c d x y z e) true := by
  refine Ev.congr (fun k => by rw [regcertref09_Same.f]) ?_
  refine Ev.pos rfl (Ev.pos rfl (Ev.pos rfl (Ev.pos rfl (Ev.pos rfl ?_))))
  refine Ev.bind (values_refl x hx) (Ev.pos rfl ?_)
  refine Ev.bind (values_refl y hy) (Ev.pos rfl ?_)
  exact Ev.bind (values_refl z hz) (Ev.now _)

/-- What Step answers at a run that holds what runs hold. -/
theorem step_one {fr fs a0 : Int} {l : List S69} (V : ValidP fr fs l) {s : PS} (I : Inv fr fs l s) (hb : s.steps ≤ 1000) : ∃ s1, execute_Step.f a0 fr fs l s.st s.blk s.at_ s.val s.regs s.slots s.trace s.steps = some (s1.st, s1.blk, s1.at_, s1.val, s1.regs, s1.slots, s1.trace, s1.steps) ∧
    Inv fr fs l s1 ∧ (s.st = 0 → stepP l s = some s1 ∧ ((s1.steps = s.steps + 1) ∨ (s1.st = 2 ∧ s1.steps = s.steps))) ∧ (s.st ≠ 0 → s1 = s) := by
  have hr := I.regs
  have hr1 := V.regs1
  have hl := I.slots
  have hl1 := V.slots1
  have ht := I.trace
  unfold execute_Step.f
  rw [if_pos ⟨by omega, by omega, by omega⟩]
  by_cases h0 : s.st = 0
  · obtain ⟨s1, e1, I1, p1, hc⟩ := step_ok V I (by omega)
    rw [if_pos h0]
    refine ⟨s1, ?_, I1, fun _ => ⟨e1, hc⟩, fun h => absurd h0 h⟩
    show (stepP l s).bind _ = _
    rw [e1]
    rfl
  · rw [if_neg h0]
    exact ⟨s, rfl, I, fun h => absurd h h0, fun _ => rfl⟩
end Go.Proofs.Ytgkmagfajalnhaa.E
