/-
  Step: the plain function and its contract.
-/
import Derived.Test.YtgkmagfajalnhaaTEStepD
namespace Go.Proofs.Ytgkmagfajalnhaa.E
open Go.RowKit Go.Proofs.YtgkmagfajalnhaaW.PrintWords Go.Proofs.YtgkmagfajalnhaaW.PrintLast Go.Proofs.YtgkmagfajalnhaaW.PrintMore
set_option linter.unusedVariables false
set_option linter.unusedSimpArgs false

def execute_Step.f (a0_0 a0_1 a0_2 : Int) (l0_3 : List S69) (a1_0 a1_1 a1_2 a1_3 : Int) (l1_4 l1_5 l1_6 : List Int) (a1_7 : Int) : Option (Int × Int × Int × Int × List Int × List Int × List Int × Int) :=
  if l1_4.length * 8 ≤ 140737488355328 ∧ l1_5.length * 8 ≤ 140737488355328 ∧ l1_6.length * 8 ≤ 140737488355328 then
    (if a1_0 = 0 then (stepP l0_3 (PS.mk a1_0 a1_1 a1_2 a1_3 l1_4 l1_5 l1_6 a1_7)).bind fun s => some (s.st, s.blk, s.at_, s.val, s.regs, s.slots, s.trace, s.steps)
     else some (a1_0, a1_1, a1_2, a1_3, l1_4, l1_5, l1_6, a1_7))
  else none

theorem execute_Step.calls (a0_0 : Int) (a0_1 : Int) (a0_2 : Int) (A0_3 : Option Addr) (c0_3 : Nat) (l0_3 : List (S69)) (a1_0 : Int) (a1_1 : Int) (a1_2 : Int) (a1_3 : Int) (A1_4 : Option Addr) (c1_4 : Nat) (l1_4 : List Int) (A1_5 : Option Addr) (c1_5 : Nat) (l1_5 : List Int) (A1_6 : Option Addr) (c1_6 : Nat) (l1_6 : List Int) (a1_7 : Int)
    (r1 : Int) (r2 : Int) (r3 : Int) (r4 : Int) (r5 : List Int) (r6 : List Int) (r7 : List Int) (r8 : Int) (w : World)
    (hr0_3 : Kd.C k69 w A0_3 l0_3.length l0_3) (hc0_3 : l0_3.length ≤ c0_3) (hr1_4 : Kd.C (Kd.int .i64) w A1_4 l1_4.length l1_4) (hc1_4 : l1_4.length ≤ c1_4) (hr1_5 : Kd.C (Kd.int .i64) w A1_5 l1_5.length l1_5) (hc1_5 : l1_5.length ≤ c1_5) (hr1_6 : Kd.C (Kd.int .i64) w A1_6 l1_6.length l1_6) (hc1_6 : l1_6.length ≤ c1_6)
    (h : execute_Step.f a0_0 a0_1 a0_2 l0_3 a1_0 a1_1 a1_2 a1_3 l1_4 l1_5 l1_6 a1_7 = some (r1, r2, r3, r4, r5, r6, r7, r8)) :
    Calls Try.prog 56 #[.agg #[.int .i64 a0_0, .int .i64 a0_1, .int .i64 a0_2, .slice A0_3 l0_3.length c0_3], .agg #[.int .i64 a1_0, .int .i64 a1_1, .int .i64 a1_2, .int .i64 a1_3, .slice A1_4 l1_4.length c1_4, .slice A1_5 l1_5.length c1_5, .slice A1_6 l1_6.length c1_6, .int .i64 a1_7]] w fun e w' =>
      ∃ v4_ v5_ v6_ : Value, e = .returned (.agg #[.int .i64 r1, .int .i64 r2, .int .i64 r3, .int .i64 r4, v4_, v5_, v6_, .int .i64 r8]) ∧
        Kd.R (Kd.int .i64) 2 w' w.heap.size (fun k_ => some k_ ≠ (v5_ : Value).ownBlock ∧ some k_ ≠ (v6_ : Value).ownBlock) v4_ r5 ∧
        Kd.R (Kd.int .i64) 2 w' w.heap.size (fun k_ => some k_ ≠ (v4_ : Value).ownBlock ∧ some k_ ≠ (v6_ : Value).ownBlock) v5_ r6 ∧
        Kd.R (Kd.int .i64) 2 w' w.heap.size (fun k_ => some k_ ≠ (v4_ : Value).ownBlock ∧ some k_ ≠ (v5_ : Value).ownBlock) v6_ r7 ∧ Below w.heap.size w w' := by
  unfold execute_Step.f at h
  by_cases hc : l1_4.length * 8 ≤ 140737488355328 ∧ l1_5.length * 8 ≤ 140737488355328 ∧ l1_6.length * 8 ≤ 140737488355328
  rotate_left
  ·rw [if_neg hc] at h
   cases h
  rw [if_pos hc] at h
  obtain ⟨h4, h5, h6⟩ := hc
  by_cases h0 : a1_0 = 0
  rotate_left
  ·rw [if_neg h0] at h
   injection h with hq
   injection hq with q1 hq
   injection hq with q2 hq
   injection hq with q3 hq
   injection hq with q4 hq
   injection hq with q5 hq
   injection hq with q6 hq
   injection hq with q7 q8
   subst q1 q2 q3 q4 q5 q6 q7 q8
   refine (stepc_stay w a0_0 a0_1 a0_2 A0_3 A1_4 A1_5 A1_6 c0_3 c1_4 c1_5 c1_6 l0_3 a1_0 a1_1 a1_2 a1_3 l1_4 l1_5 l1_6 a1_7 hr0_3 hr1_4 hr1_5 hr1_6 h4 h5 h6 (beq_eq_false_iff_ne.mpr h0)).mono ?_
   rintro e w1 ⟨vR, vS, vT, rfl, hR, hS, hT, hap, hRS, hST, hB⟩
   exact ⟨vR, vS, vT, rfl, ⟨fun k hk => ⟨hRS k hk, hap k hk⟩, hR.2⟩, ⟨fun k hk => ⟨fun e => hRS k e.symm hk.symm, hST k hk⟩, hS.2⟩, ⟨fun k hk => ⟨fun e => hap k e.symm hk.symm, fun e => hST k e.symm hk.symm⟩, hT.2⟩, hB⟩
  rw [if_pos h0] at h
  obtain ⟨s, hs, hq⟩ := Option.bind_eq_some_iff.mp h
  injection hq with hq
  injection hq with q1 hq
  injection hq with q2 hq
  injection hq with q3 hq
  injection hq with q4 hq
  injection hq with q5 hq
  injection hq with q6 hq
  injection hq with q7 q8
  subst q1 q2 q3 q4 q5 q6 q7 q8
  refine (stepc_go w a0_0 a0_1 a0_2 A0_3 A1_4 A1_5 A1_6 c0_3 c1_4 c1_5 c1_6 l0_3 a1_0 a1_1 a1_2 a1_3 l1_4 l1_5 l1_6 a1_7 s hr0_3 hr1_4 hr1_5 hr1_6 h4 h5 h6 (beq_iff_eq.mpr h0) hs).mono ?_
  rintro e w1 ⟨vR, vS, vT, rfl, hR, hS, hT, hap, hRS, hST, hB⟩
  exact ⟨vR, vS, vT, rfl, ⟨fun k hk => ⟨hRS k hk, hap k hk⟩, hR.2⟩, ⟨fun k hk => ⟨fun e => hRS k e.symm hk.symm, hST k hk⟩, hS.2⟩, ⟨fun k hk => ⟨fun e => hap k e.symm hk.symm, fun e => hST k e.symm hk.symm⟩, hT.2⟩, hB⟩

end Go.Proofs.Ytgkmagfajalnhaa.E
