-- Written by a program of this session (xprint), out of the translation. Not trusted: Lean checks it.
import Derived.Test.YtchlilkhgagdeaaX0
import Derived.Test.YtchlilkhgagdeaaXOpen
namespace Go.Proofs.Ytchlilkhgagdeaa.X
open Go.RowKit Go.Proofs.YtchlilkhgagdeaaW.PrintWords Go.Proofs.YtchlilkhgagdeaaW.PrintLast Go.Proofs.YtchlilkhgagdeaaW.PrintMore
attribute [local go_sem] max2_int min2_int max_two min_two max_three min_three max_four min_four   -- for this text's walks alone
set_option linter.unusedVariables false
set_option linter.unusedSimpArgs false

open Go.Proofs.Ytchlilkhgagdeaa.Open Go.ChangeShapes
def good25 (x : S25) : Prop := (fun n_ : Int => (Lit.int .i64 n_).wf = true) x.f0 ∧ (fun n_ : Int => (Lit.int .i64 n_).wf = true) x.f1 ∧ (fun n_ : Int => (Lit.int .i64 n_).wf = true) x.f2 ∧ (fun n_ : Int => (Lit.int .i64 n_).wf = true) x.f3 ∧ (fun n_ : Int => (Lit.int .i64 n_).wf = true) x.f4
theorem opens25 : Opens Try.prog 25 k25 good25 := opens_struct Try.underlying25 (by kernel_rfl) (opens_cons rfl (by kernel_rfl) (opens_int Try.underlying3) (opens_cons rfl (by kernel_rfl) (opens_int Try.underlying3) (opens_cons rfl (by kernel_rfl) (opens_int Try.underlying3) (opens_cons rfl (by kernel_rfl) (opens_int Try.underlying3) (opens_last rfl (by kernel_rfl) (opens_int Try.underlying2)))))) (fun x : S25 => (x.f0, x.f1, x.f2, x.f3, x.f4)) (fun a => ⟨a.1, a.2.1, a.2.2.1, a.2.2.2.1, a.2.2.2.2⟩) (fun _ => rfl)
def good28 (x : S28) : Prop := (fun n_ : Int => (Lit.int .i64 n_).wf = true) x.f0 ∧ (fun n_ : Int => (Lit.int .i64 n_).wf = true) x.f1 ∧ (fun n_ : Int => (Lit.int .i64 n_).wf = true) x.f2 ∧ (fun n_ : Int => (Lit.int .i64 n_).wf = true) x.f3 ∧ (fun n_ : Int => (Lit.int .i64 n_).wf = true) x.f4 ∧ (fun n_ : Int => (Lit.int .i64 n_).wf = true) x.f5 ∧ (fun n_ : Int => (Lit.int .i64 n_).wf = true) x.f6
theorem opens28 : Opens Try.prog 28 k28 good28 := opens_struct Try.underlying28 (by kernel_rfl) (opens_cons rfl (by kernel_rfl) (opens_int Try.underlying3) (opens_cons rfl (by kernel_rfl) (opens_int Try.underlying3) (opens_cons rfl (by kernel_rfl) (opens_int Try.underlying3) (opens_cons rfl (by kernel_rfl) (opens_int Try.underlying3) (opens_cons rfl (by kernel_rfl) (opens_int Try.underlying2) (opens_cons rfl (by kernel_rfl) (opens_int Try.underlying26) (opens_last rfl (by kernel_rfl) (opens_int Try.underlying26)))))))) (fun x : S28 => (x.f0, x.f1, x.f2, x.f3, x.f4, x.f5, x.f6)) (fun a => ⟨a.1, a.2.1, a.2.2.1, a.2.2.2.1, a.2.2.2.2.1, a.2.2.2.2.2.1, a.2.2.2.2.2.2⟩) (fun _ => rfl)
def good30 (x : S30) : Prop := (fun n_ : Int => (Lit.int .i64 n_).wf = true) x.f0 ∧ (fun n_ : Int => (Lit.int .i64 n_).wf = true) x.f1 ∧ (fun n_ : Int => (Lit.int .i64 n_).wf = true) x.f2 ∧ (fun n_ : Int => (Lit.int .i64 n_).wf = true) x.f3
theorem opens30 : Opens Try.prog 30 k30 good30 := opens_struct Try.underlying30 (by kernel_rfl) (opens_cons rfl (by kernel_rfl) (opens_int Try.underlying3) (opens_cons rfl (by kernel_rfl) (opens_int Try.underlying3) (opens_cons rfl (by kernel_rfl) (opens_int Try.underlying3) (opens_last rfl (by kernel_rfl) (opens_int Try.underlying3))))) (fun x : S30 => (x.f0, x.f1, x.f2, x.f3)) (fun a => ⟨a.1, a.2.1, a.2.2.1, a.2.2.2⟩) (fun _ => rfl)
end Go.Proofs.Ytchlilkhgagdeaa.X
