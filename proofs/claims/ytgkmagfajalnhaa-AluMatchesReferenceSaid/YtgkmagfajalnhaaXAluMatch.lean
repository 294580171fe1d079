/-
  AluMatchesReference and AluUnusedOperands: at every opcode and all values Eval, Pure and Traps are the reference's; Eval does not depend on operands that the opcode doesn't use. No condition.
-/
import Derived.Test.YtgkmagfajalnhaaXAluRef
import Derived.Test.YtgkmagfajalnhaaXRowAluMatchesReference
import Derived.Test.YtgkmagfajalnhaaXRowAluUnusedOperands
namespace Go.Proofs.Ytgkmagfajalnhaa.X
open Go.RowKit Go.Proofs.YtgkmagfajalnhaaW.PrintWords Go.Proofs.Ytgkmagfajalnhaa.Num
set_option linter.unusedVariables false

theorem pure_is (n : Int) : alu_Pure.f n = some (decide (1 ≤ n ∧ n ≤ 16)) := by
  unfold alu_Pure.f
  have e : (aluEval n 1 1 1).2 = decide (1 ≤ n ∧ n ≤ 16) := by
    unfold aluEval
    by_cases h : 1 ≤ n ∧ n ≤ 16
    · rw [decide_eq_true h]
      have : n = 1 ∨ n = 2 ∨ n = 3 ∨ n = 4 ∨ n = 5 ∨ n = 6 ∨ n = 7 ∨ n = 8 ∨ n = 9 ∨ n = 10 ∨ n = 11 ∨ n = 12 ∨ n = 13 ∨ n = 14 ∨ n = 15 ∨ n = 16 := by omega
      rcases this with rfl | rfl | rfl | rfl | rfl | rfl | rfl | rfl | rfl | rfl | rfl | rfl | rfl | rfl | rfl | rfl <;> rfl
    · rw [decide_eq_false h]
      rw [if_neg (by omega), if_neg (by omega), if_neg (by omega), if_neg (by omega), if_neg (by omega), if_neg (by omega), if_neg (by omega), if_neg (by omega), if_neg (by omega), if_neg (by omega), if_neg (by omega), if_neg (by omega), if_neg (by omega), if_neg (by omega), if_neg (by omega), if_neg (by omega)]
  show some (aluEval n 1 1 1).2 = _
  rw [e]

theorem match_pure (n a b imm : Int) (ha : I64 a) (hb : I64 b) : ∃ k, regcertlaw06_AluMatchesReference.f k n a b imm = some true := by
  refine Ev.rounds (g := fun k => regcertlaw06_AluMatchesReference.f k n a b imm) ?_
  unfold regcertlaw06_AluMatchesReference.f
  refine Ev.bindc awake06 (Ev.pos rfl (Ev.bindc (a := aluEval n a b imm) rfl (Ev.bind (eval_ref n a b imm ha hb) ?_)))
  refine Ev.pos rfl (Ev.pos (by simp) (Ev.bindc (pure_is n) ?_))
  have tr : alu_Traps.f n = some (n == 8 || n == 9) := rfl
  have last : ∀ (c : Bool), c = true → Ev (fun _ => if c = true then (alu_Traps.f n).bind fun t142 => if n = 8 then some (t142 == true) else some (t142 == (n == 9)) else some false) true := by
    intro c hc
    refine Ev.pos hc (Ev.bindc tr ?_)
    by_cases c8 : n = 8
    · exact Ev.pos c8 (Ev.val (by simp [c8]))
    · exact Ev.neg c8 (Ev.val (by simp [c8]))
  by_cases h1 : n ≥ 1
  · refine Ev.pos h1 (last _ ?_)
    have h1' : 1 ≤ n := h1
    simp [h1']
  · refine Ev.neg h1 (last _ ?_)
    have h1' : ¬ 1 ≤ n := h1
    simp [h1']

theorem uses_eq (n a b imm c : Int) : aluEval n a b imm = aluEval n (if 2 ≤ n ∧ n ≤ 17 then a else c) (if 5 ≤ n ∧ n ≤ 16 then b else c) (if n = 1 then imm else c) := by
  by_cases h : 5 ≤ n ∧ n ≤ 16
  · rw [if_pos (show 2 ≤ n ∧ n ≤ 17 by omega), if_pos h, if_neg (show ¬ n = 1 by omega)]
    unfold aluEval
    rw [if_neg (show ¬ n = 1 by omega), if_neg (show ¬ n = 1 by omega)]
  · rw [if_neg h]
    by_cases h2 : 2 ≤ n ∧ n ≤ 17
    · rw [if_pos h2, if_neg (show ¬ n = 1 by omega)]
      have : n = 2 ∨ n = 3 ∨ n = 4 ∨ n = 17 := by omega
      rcases this with rfl | rfl | rfl | rfl <;> simp [aluEval]
    · rw [if_neg h2]
      by_cases h1 : n = 1
      · rw [if_pos h1]
        subst h1
        simp [aluEval]
      · rw [if_neg h1]
        unfold aluEval
        have e : ∀ j : Int, 2 ≤ j → j ≤ 16 → ¬ n = j := by
          intro j _ _
          omega
        simp only [if_neg h1, if_neg (e 2 (by omega) (by omega)), if_neg (e 3 (by omega) (by omega)), if_neg (e 4 (by omega) (by omega)), if_neg (e 5 (by omega) (by omega)), if_neg (e 6 (by omega) (by omega)), if_neg (e 7 (by omega) (by omega)), if_neg (e 8 (by omega) (by omega)), if_neg (e 9 (by omega) (by omega)), if_neg (e 10 (by omega) (by omega)), if_neg (e 11 (by omega) (by omega)), if_neg (e 12 (by omega) (by omega)), if_neg (e 13 (by omega) (by omega)), if_neg (e 14 (by omega) (by omega)), if_neg (e 15 (by omega) (by omega)), if_neg (e 16 (by omega) (by omega))]

theorem usesA_is (n : Int) : regcertref05_UsesA.f n = some (decide (2 ≤ n ∧ n ≤ 17)) := by
  unfold regcertref05_UsesA.f
  by_cases h : n ≥ 2
  · rw [if_pos h]
    have h' : 2 ≤ n := h
    simp [h']
  · rw [if_neg h]
    have h' : ¬ 2 ≤ n := h
    simp [h']
theorem usesB_is (n : Int) : regcertref05_UsesB.f n = some (decide (5 ≤ n ∧ n ≤ 16)) := by
  unfold regcertref05_UsesB.f
  by_cases h : n ≥ 5
  · rw [if_pos h]
    have h' : 5 ≤ n := h
    simp [h']
  · rw [if_neg h]
    have h' : ¬ 5 ≤ n := h
    simp [h']

theorem unused_pure (n a b imm c : Int) : ∃ k, regcertlaw06_AluUnusedOperands.f k n a b imm c = some true := by
  refine Ev.rounds (g := fun k => regcertlaw06_AluUnusedOperands.f k n a b imm c) ?_
  unfold regcertlaw06_AluUnusedOperands.f
  refine Ev.bindc awake06 (Ev.pos rfl (Ev.bindc (a := aluEval n a b imm) rfl (Ev.bindc (usesA_is n) ?_)))
  have hu := uses_eq n a b imm c
  have last : ∀ p q : Int, p = (if 2 ≤ n ∧ n ≤ 17 then a else c) → q = (if 5 ≤ n ∧ n ≤ 16 then b else c) → Ev (fun k => regcertlaw06_AluUnusedOperands.j1 k n c (aluEval n a b imm).1 (aluEval n a b imm).2 p q imm) true := by
    intro p q hp hq
    refine Ev.step (fun k => by rw [regcertlaw06_AluUnusedOperands.j1]) ?_
    refine Ev.bindc (a := (n == 1)) rfl ?_
    by_cases h1 : n = 1
    · rw [if_pos h1, ← hp, ← hq] at hu
      refine Ev.pos (by simp [h1]) (Ev.bindc (a := aluEval n p q imm) rfl (Ev.pos (by rw [hu]) (Ev.val ?_)))
      rw [hu]
      simp
    · rw [if_neg h1, ← hp, ← hq] at hu
      refine Ev.neg (by simp [h1]) (Ev.bindc (a := aluEval n p q c) rfl (Ev.pos (by rw [hu]) (Ev.val ?_)))
      rw [hu]
      simp
  have mid : ∀ p : Int, p = (if 2 ≤ n ∧ n ≤ 17 then a else c) → Ev (fun k => regcertlaw06_AluUnusedOperands.j0 k n c (aluEval n a b imm).1 (aluEval n a b imm).2 p b imm) true := by
    intro p hp
    refine Ev.step (fun k => by rw [regcertlaw06_AluUnusedOperands.j0]) ?_
    refine Ev.bindc (usesB_is n) ?_
    by_cases h : 5 ≤ n ∧ n ≤ 16
    · exact Ev.pos (decide_eq_true h) (last _ _ hp (by rw [if_pos h]))
    · exact Ev.neg (by simpa using h) (last _ _ hp (by rw [if_neg h]))
  by_cases h : 2 ≤ n ∧ n ≤ 17
  · exact Ev.pos (decide_eq_true h) (mid _ (by rw [if_pos h]))
  · exact Ev.neg (by simpa using h) (mid _ (by rw [if_neg h]))
end Go.Proofs.Ytgkmagfajalnhaa.X
namespace Go.Proofs.Ytgkmagfajalnhaa
theorem aluMatchesReference_holds : Rows.AluMatchesReferenceSaid := aluMatchesReference.over fun n a b imm _ ha hb _ => X.match_pure n a b imm (bounds_i64 ha) (bounds_i64 hb)
theorem aluUnusedOperands_holds : Rows.AluUnusedOperandsSaid := aluUnusedOperands.over fun n a b imm c _ _ _ _ _ => X.unused_pure n a b imm c
end Go.Proofs.Ytgkmagfajalnhaa
