/-
  AlignMatchesReference: at every input of at most 300 instructions a block (the law's own guard) the implementation's rows, index and error are the reference's, and so are Same and Terms. No other condition.
-/
import Derived.Test.YtchlilkhgagdeaaX8
import Derived.Test.YtchlilkhgagdeaaXPb
import Derived.Test.YtchlilkhgagdeaaXRowAlignMatchesReference
namespace Go.Proofs.Ytchlilkhgagdeaa.X
open Go.RowKit Go.Proofs.YtchlilkhgagdeaaW.PrintWords Go.Proofs.Ytchlilkhgagdeaa.Spec
set_option linter.unusedVariables false

theorem terms_is (a0 a1 a2 a3 b0 b1 b2 b3 : Int) : align_Terms.f a0 a1 a2 a3 b0 b1 b2 b3 = some (a0 == b0 && (a2 == b2 && a3 == b3)) := by
  unfold align_Terms.f
  by_cases h1 : a0 = b0
  · rw [if_pos h1]
    by_cases h2 : a2 = b2
    · rw [if_pos h2]
      simp [h1, h2]
    · rw [if_neg h2]
      simp [h2]
  · rw [if_neg h1]
    simp [h1]

theorem match_pure (c : List S25) (m : List S28) (x : S25) (y : S28) (a b : S30) :
    ∃ k, regcertlaw13_AlignMatchesReference.f k c m x.f0 x.f1 x.f2 x.f3 x.f4 y.f0 y.f1 y.f2 y.f3 y.f4 y.f5 y.f6 a.f0 a.f1 a.f2 a.f3 b.f0 b.f1 b.f2 b.f3 = some true := by
  refine Ev.rounds (g := fun k => regcertlaw13_AlignMatchesReference.f k c m x.f0 x.f1 x.f2 x.f3 x.f4 y.f0 y.f1 y.f2 y.f3 y.f4 y.f5 y.f6 a.f0 a.f1 a.f2 a.f3 b.f0 b.f1 b.f2 b.f3) ?_
  unfold regcertlaw13_AlignMatchesReference.f
  refine Ev.bind awake_is (Ev.pos rfl ?_)
  by_cases h1 : (c.length : Int) > 300
  · exact Ev.pos h1 (Ev.step (fun k => by rw [regcertlaw13_AlignMatchesReference.j0]) (Ev.pos rfl (Ev.bind awake_is (Ev.val rfl))))
  refine Ev.neg h1 (Ev.step (fun k => by rw [regcertlaw13_AlignMatchesReference.j0]) ?_)
  by_cases h2 : (m.length : Int) > 300
  · exact Ev.pos (decide_eq_true h2) (Ev.bind awake_is (Ev.val rfl))
  refine Ev.neg (by simpa using h2) ?_
  refine Ev.bind (code_is c m (by omega) (by omega)) ?_
  refine Ev.bind (ref_is c m (by omega) (by omega)) ?_
  have hl := spec_length same c.length m.length (idx pc c 0) (idx pm m 0) 0 0
  have hlB := idx_length (p := pm) m 0
  generalize spec same c.length m.length (idx pc c 0) (idx pm m 0) 0 0 = r at hl
  obtain ⟨e1, e2⟩ := fin_conv r
  have hl2 : (fin [] row45 r).1.length ≤ 200000 := by
    unfold fin
    split <;> simp <;> omega
  refine Ev.bind (rows_is _ hl2) ?_
  rw [e1]
  refine Ev.bind (Rows_is _ (by rw [← e1, List.length_map]; exact hl2)) (Ev.pos rfl (Ev.pos (by rw [e2]) (Ev.pos (by rw [e2]) ?_)))
  refine Ev.bindc (align_same x y) (Ev.bindc (ref_same x y) (Ev.pos (by simp) (Ev.bindc (terms_is ..) ?_)))
  unfold regcertref13_Terms.f
  exact Ev.bindv (Ev.val (by simp))
end Go.Proofs.Ytchlilkhgagdeaa.X
namespace Go.Proofs.Ytchlilkhgagdeaa
theorem alignMatchesReference_holds : Rows.AlignMatchesReferenceSaid := alignMatchesReference.over fun c m x y a b _ _ _ _ _ _ => X.match_pure c m x y a b
end Go.Proofs.Ytchlilkhgagdeaa
