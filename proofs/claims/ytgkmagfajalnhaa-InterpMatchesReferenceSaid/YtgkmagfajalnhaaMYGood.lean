-- Written by a program of this session (xprint), out of the translation. Not trusted: Lean checks it.
import Derived.Test.YtgkmagfajalnhaaMY0
import Derived.Test.YtgkmagfajalnhaaMXOpen
namespace Go.Proofs.Ytgkmagfajalnhaa.Y
open Go.RowKit Go.Proofs.YtgkmagfajalnhaaW.PrintWords Go.Proofs.YtgkmagfajalnhaaW.PrintLast Go.Proofs.YtgkmagfajalnhaaW.PrintMore
attribute [local go_sem] max2_int min2_int max_two min_two max_three min_three max_four min_four   -- for this text's walks alone
set_option linter.unusedVariables false
set_option linter.unusedSimpArgs false

open Go.Proofs.Ytgkmagfajalnhaa.Open Go.ChangeShapes
def good97 (x : S97) : Prop := (fun n_ : Int => (Lit.int .i64 n_).wf = true) x.f0 ∧ (fun n_ : Int => (Lit.int .i64 n_).wf = true) x.f1 ∧ (fun n_ : Int => (Lit.int .i64 n_).wf = true) x.f2 ∧ (fun n_ : Int => (Lit.int .i64 n_).wf = true) x.f3 ∧ (fun n_ : Int => (Lit.int .i64 n_).wf = true) x.f4
theorem opens97 : Opens Try.prog 97 k97 good97 := opens_struct Try.underlying97 (by kernel_rfl) (opens_cons rfl (by kernel_rfl) (opens_int Try.underlying3) (opens_cons rfl (by kernel_rfl) (opens_int Try.underlying3) (opens_cons rfl (by kernel_rfl) (opens_int Try.underlying3) (opens_cons rfl (by kernel_rfl) (opens_int Try.underlying3) (opens_last rfl (by kernel_rfl) (opens_int Try.underlying2)))))) (fun x : S97 => (x.f0, x.f1, x.f2, x.f3, x.f4)) (fun a => ⟨a.1, a.2.1, a.2.2.1, a.2.2.2.1, a.2.2.2.2⟩) (fun _ => rfl)
def good48 (x : S48) : Prop := (fun n_ : Int => (Lit.int .i64 n_).wf = true) x.f0 ∧ (fun n_ : Int => (Lit.int .i64 n_).wf = true) x.f1 ∧ (fun n_ : Int => (Lit.int .i64 n_).wf = true) x.f2 ∧ (fun n_ : Int => (Lit.int .i64 n_).wf = true) x.f3
theorem opens48 : Opens Try.prog 48 k48 good48 := opens_struct Try.underlying48 (by kernel_rfl) (opens_cons rfl (by kernel_rfl) (opens_int Try.underlying3) (opens_cons rfl (by kernel_rfl) (opens_int Try.underlying3) (opens_cons rfl (by kernel_rfl) (opens_int Try.underlying3) (opens_last rfl (by kernel_rfl) (opens_int Try.underlying3))))) (fun x : S48 => (x.f0, x.f1, x.f2, x.f3)) (fun a => ⟨a.1, a.2.1, a.2.2.1, a.2.2.2⟩) (fun _ => rfl)
def good50 (x : S50) : Prop := (fun xs_ : List S97 => xs_.length ≤ maxLen ∧ ∀ x_ ∈ xs_, good97 x_) x.f0 ∧ good48 x.f1
theorem opens50 : Opens Try.prog 50 k50 good50 := opens_struct Try.underlying50 (by kernel_rfl) (opens_cons rfl (by kernel_rfl) (opens_slice Try.underlying46 (by kernel_rfl) opens97) (opens_last rfl (by kernel_rfl) opens48)) (fun x : S50 => (x.f0, x.f1)) (fun a => ⟨a.1, a.2⟩) (fun _ => rfl)
def good34 (x : S34) : Prop := (fun n_ : Int => (Lit.int .i64 n_).wf = true) x.f0 ∧ (fun n_ : Int => (Lit.int .i64 n_).wf = true) x.f1 ∧ (fun xs_ : List S50 => xs_.length ≤ maxLen ∧ ∀ x_ ∈ xs_, good50 x_) x.f2
theorem opens34 : Opens Try.prog 34 k34 good34 := opens_struct Try.underlying34 (by kernel_rfl) (opens_cons rfl (by kernel_rfl) (opens_int Try.underlying3) (opens_cons rfl (by kernel_rfl) (opens_int Try.underlying3) (opens_last rfl (by kernel_rfl) (opens_slice Try.underlying32 (by kernel_rfl) opens50)))) (fun x : S34 => (x.f0, x.f1, x.f2)) (fun a => ⟨a.1, a.2.1, a.2.2⟩) (fun _ => rfl)
end Go.Proofs.Ytgkmagfajalnhaa.Y
