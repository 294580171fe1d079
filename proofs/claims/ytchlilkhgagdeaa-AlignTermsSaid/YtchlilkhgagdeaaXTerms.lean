/-
  AlignTerms: the correspondence of terminators does not depend on their operands, and is an equivalence. No condition.
-/
import Derived.Test.YtchlilkhgagdeaaX6
import Derived.Test.YtchlilkhgagdeaaX12
import Derived.Test.YtchlilkhgagdeaaXPa
import Derived.Test.YtchlilkhgagdeaaXRowAlignTerms
namespace Go.Proofs.Ytchlilkhgagdeaa.X
open Go.RowKit Go.Proofs.YtchlilkhgagdeaaW.PrintWords Go.Proofs.Ytchlilkhgagdeaa.Spec
set_option linter.unusedVariables false

theorem awake_terms : Ev (fun k => regcertlaw13_awake.f k) true := Ev.of (fun k => regcertlaw13_awake.mono k) (k := 40) (by kernel_rfl)

theorem terms_is (a0 a1 a2 a3 b0 b1 b2 b3 : Int) : align_Terms.f a0 a1 a2 a3 b0 b1 b2 b3 = some (a0 == b0 && (a2 == b2 && a3 == b3)) := by
  unfold align_Terms.f
  by_cases h1 : a0 = b0
  · rw [if_pos h1]
    by_cases h2 : a2 = b2
    · rw [if_pos h2]
      simp [h1, h2]
    · rw [if_neg h2]
      simp [h2]
  · rw [if_neg h1]
    simp [h1]

theorem terms_pure (a0 a1 a2 a3 b0 b1 b2 b3 c0 c1 c2 c3 n : Int) : ∃ k, regcertlaw13_AlignTerms.f k a0 a1 a2 a3 b0 b1 b2 b3 c0 c1 c2 c3 n = some true := by
  refine Ev.rounds (g := fun k => regcertlaw13_AlignTerms.f k a0 a1 a2 a3 b0 b1 b2 b3 c0 c1 c2 c3 n) ?_
  unfold regcertlaw13_AlignTerms.f
  refine Ev.bind awake_terms (Ev.pos rfl (Ev.bindc (terms_is ..) (Ev.pos (by simp) (Ev.bindc (terms_is ..) (Ev.bindc (terms_is ..) ?_)))))
  refine Ev.neg (by simp [Bool.beq_comm]) ?_
  have e1 : (a0 == b0 && (a2 == b2 && a3 == b3)) = (b0 == a0 && (b2 == a2 && b3 == a3)) := by
    rw [Bool.beq_comm (a := a0), Bool.beq_comm (a := a2), Bool.beq_comm (a := a3)]
  refine Ev.bindc (terms_is ..) (Ev.bindc (terms_is ..) ?_)
  refine Ev.step (fun k => by rw [regcertlaw13_AlignTerms.j0]) (Ev.neg (by simp) ?_)
  refine Ev.bindc (terms_is ..) ?_
  by_cases h1 : (a0 == b0 && (a2 == b2 && a3 == b3)) = true
  · refine Ev.pos h1 (Ev.bindc (terms_is ..) ?_)
    by_cases h2 : (b0 == c0 && (b2 == c2 && b3 == c3)) = true
    · refine Ev.pos h2 (Ev.bindc (terms_is ..) (Ev.val ?_))
      simp at h1 h2
      obtain ⟨rfl, rfl, rfl⟩ := h1
      simp [h2]
    · exact Ev.neg h2 (Ev.val rfl)
  · exact Ev.neg h1 (Ev.val rfl)
end Go.Proofs.Ytchlilkhgagdeaa.X
namespace Go.Proofs.Ytchlilkhgagdeaa
theorem alignTerms_holds : Rows.AlignTermsSaid := alignTerms.over fun _ _ _ _ _ _ _ _ => X.terms_pure _ _ _ _ _ _ _ _ _ _ _ _ _
end Go.Proofs.Ytchlilkhgagdeaa
