/-
  What the runs answer, for the laws.
-/
import Derived.Test.YtgkmagfajalnhaaUEValid
import Derived.Test.YtgkmagfajalnhaaUEAwk
import Derived.Test.YtgkmagfajalnhaaUEStepE
namespace Go.Proofs.Ytgkmagfajalnhaa.E
open Go.RowKit Go.Proofs.YtgkmagfajalnhaaW.PrintWords Go.Proofs.YtgkmagfajalnhaaW.PrintLast Go.Proofs.YtgkmagfajalnhaaW.PrintMore Num
set_option linter.unusedVariables false
set_option linter.unusedSimpArgs false

theorem awake10 : Ev (fun k => regcertlaw10_awake.f k) true := Ev.of (fun k => regcertlaw10_awake.mono k) (k := 40) (by kernel_rfl)

theorem exec_ev {fr fs : Int} {l : List S69} (V : ValidP fr fs l) {l1 : List Int} {a0 m : Int} (ha : (l1.length : Int) = a0) (h1 : a0 ≤ fs) (hm0 : 0 ≤ m) (hm : m ≤ 1000000) :
    ∃ r, Ev (fun k => execute_Exec.f k a0 fr fs l l1 m) (r.st, r.blk, r.at_, r.val, r.regs, r.slots, r.trace, r.steps, 0) ∧ Ran fr fs l m (beginP fr fs l1) r ∧ ∃ k, execLoop k l m (beginP fr fs l1) = some r := by
  have hf : fuelOf m = m := if_neg (by omega)
  obtain ⟨r, er, R⟩ := exec_ran V hm (m.toNat) (beginP fr fs l1) (begin_inv V (by omega)) hm0 (by show (m - 0).toNat ≤ _; omega)
  have h0 := V.regs0
  have h60 := V.regs1
  have h2 := V.slots0
  have h62 := V.slots1
  refine ⟨r, ⟨m.toNat + 2, fun k hk => ?_⟩, R, _, er⟩
  unfold execute_Exec.f
  dsimp only
  rw [if_pos ha, if_pos ⟨h0, by omega, h2, by omega⟩, hf, execLoop_le l m hk er]
  rfl

end Go.Proofs.Ytgkmagfajalnhaa.E
