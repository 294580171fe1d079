-- Written by a program of this session (xprint), out of the translation. Not trusted: Lean checks it.
import Derived.Test.YtgkmagfajalnhaaTE0
import Derived.Test.YtgkmagfajalnhaaTXOpen
namespace Go.Proofs.Ytgkmagfajalnhaa.E
open Go.RowKit Go.Proofs.YtgkmagfajalnhaaW.PrintWords Go.Proofs.YtgkmagfajalnhaaW.PrintLast Go.Proofs.YtgkmagfajalnhaaW.PrintMore
attribute [local go_sem] max2_int min2_int max_two min_two max_three min_three max_four min_four   -- for this text's walks alone
set_option linter.unusedVariables false
set_option linter.unusedSimpArgs false

open Go.Proofs.Ytgkmagfajalnhaa.Open Go.ChangeShapes
def good84 (x : S84) : Prop := (fun n_ : Int => (Lit.int .i64 n_).wf = true) x.f0 ∧ (fun n_ : Int => (Lit.int .i64 n_).wf = true) x.f1 ∧ (fun n_ : Int => (Lit.int .i64 n_).wf = true) x.f2 ∧ (fun n_ : Int => (Lit.int .i64 n_).wf = true) x.f3 ∧ (fun n_ : Int => (Lit.int .i64 n_).wf = true) x.f4 ∧ (fun n_ : Int => (Lit.int .i64 n_).wf = true) x.f5 ∧ (fun n_ : Int => (Lit.int .i64 n_).wf = true) x.f6
theorem opens84 : Opens Try.prog 84 k84 good84 := opens_struct Try.underlying84 (by kernel_rfl) (opens_cons rfl (by kernel_rfl) (opens_int Try.underlying3) (opens_cons rfl (by kernel_rfl) (opens_int Try.underlying3) (opens_cons rfl (by kernel_rfl) (opens_int Try.underlying3) (opens_cons rfl (by kernel_rfl) (opens_int Try.underlying3) (opens_cons rfl (by kernel_rfl) (opens_int Try.underlying2) (opens_cons rfl (by kernel_rfl) (opens_int Try.underlying77) (opens_last rfl (by kernel_rfl) (opens_int Try.underlying77)))))))) (fun x : S84 => (x.f0, x.f1, x.f2, x.f3, x.f4, x.f5, x.f6)) (fun a => ⟨a.1, a.2.1, a.2.2.1, a.2.2.2.1, a.2.2.2.2.1, a.2.2.2.2.2.1, a.2.2.2.2.2.2⟩) (fun _ => rfl)
def good48 (x : S48) : Prop := (fun n_ : Int => (Lit.int .i64 n_).wf = true) x.f0 ∧ (fun n_ : Int => (Lit.int .i64 n_).wf = true) x.f1 ∧ (fun n_ : Int => (Lit.int .i64 n_).wf = true) x.f2 ∧ (fun n_ : Int => (Lit.int .i64 n_).wf = true) x.f3
theorem opens48 : Opens Try.prog 48 k48 good48 := opens_struct Try.underlying48 (by kernel_rfl) (opens_cons rfl (by kernel_rfl) (opens_int Try.underlying3) (opens_cons rfl (by kernel_rfl) (opens_int Try.underlying3) (opens_cons rfl (by kernel_rfl) (opens_int Try.underlying3) (opens_last rfl (by kernel_rfl) (opens_int Try.underlying3))))) (fun x : S48 => (x.f0, x.f1, x.f2, x.f3)) (fun a => ⟨a.1, a.2.1, a.2.2.1, a.2.2.2⟩) (fun _ => rfl)
def good69 (x : S69) : Prop := (fun xs_ : List S84 => xs_.length ≤ maxLen ∧ ∀ x_ ∈ xs_, good84 x_) x.f0 ∧ good48 x.f1
theorem opens69 : Opens Try.prog 69 k69 good69 := opens_struct Try.underlying69 (by kernel_rfl) (opens_cons rfl (by kernel_rfl) (opens_slice Try.underlying67 (by kernel_rfl) opens84) (opens_last rfl (by kernel_rfl) opens48)) (fun x : S69 => (x.f0, x.f1)) (fun a => ⟨a.1, a.2⟩) (fun _ => rfl)
def good63 (x : S63) : Prop := (fun n_ : Int => (Lit.int .i64 n_).wf = true) x.f0 ∧ (fun n_ : Int => (Lit.int .i64 n_).wf = true) x.f1 ∧ (fun n_ : Int => (Lit.int .i64 n_).wf = true) x.f2 ∧ (fun xs_ : List S69 => xs_.length ≤ maxLen ∧ ∀ x_ ∈ xs_, good69 x_) x.f3
theorem opens63 : Opens Try.prog 63 k63 good63 := opens_struct Try.underlying63 (by kernel_rfl) (opens_cons rfl (by kernel_rfl) (opens_int Try.underlying3) (opens_cons rfl (by kernel_rfl) (opens_int Try.underlying3) (opens_cons rfl (by kernel_rfl) (opens_int Try.underlying3) (opens_last rfl (by kernel_rfl) (opens_slice Try.underlying61 (by kernel_rfl) opens69))))) (fun x : S63 => (x.f0, x.f1, x.f2, x.f3)) (fun a => ⟨a.1, a.2.1, a.2.2.1, a.2.2.2⟩) (fun _ => rfl)
end Go.Proofs.Ytgkmagfajalnhaa.E
