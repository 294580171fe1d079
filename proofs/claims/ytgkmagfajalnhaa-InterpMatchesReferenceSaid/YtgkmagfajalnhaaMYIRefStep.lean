/-
  The reference's Step: the plain function and its contract, for a run without slots whose place lies in the code.
-/
import Derived.Test.YtgkmagfajalnhaaMYIRefA
import Derived.Test.YtgkmagfajalnhaaMYIRefB
import Derived.Test.YtgkmagfajalnhaaMYIRefC
import Derived.Test.YtgkmagfajalnhaaMYIRefD
import Derived.Test.YtgkmagfajalnhaaMYIRefE
import Derived.Test.YtgkmagfajalnhaaMYIRefF
import Derived.Test.YtgkmagfajalnhaaMYIRefG
import Derived.Test.YtgkmagfajalnhaaMYIRefH
import Derived.Test.YtgkmagfajalnhaaMYIR6Ref
import Derived.Test.YtgkmagfajalnhaaMYIStep
namespace Go.Proofs.Ytgkmagfajalnhaa.Y
open Go.RowKit Go.Proofs.YtgkmagfajalnhaaW.PrintWords Go.Proofs.YtgkmagfajalnhaaW.PrintLast Go.Proofs.YtgkmagfajalnhaaW.PrintMore Go.Proofs.Ytgkmagfajalnhaa.Num

set_option linter.unusedVariables false

/-- The values of a list are 64-bit integers. -/
def all64 (l : List Int) : Bool := l.all fun x => decide (-9223372036854775808 ≤ x) && decide (x ≤ 9223372036854775807)
theorem all64_iff (l : List Int) : all64 l = true ↔ ∀ x ∈ l, I64 x := by
  unfold all64 I64
  rw [List.all_eq_true]
  constructor
  · intro h x hx
    have := h x hx
    rw [Bool.and_eq_true, decide_eq_true_iff, decide_eq_true_iff] at this
    omega
  · intro h x hx
    have := h x hx
    rw [Bool.and_eq_true, decide_eq_true_iff, decide_eq_true_iff]
    omega
theorem rd64 {l : List Int} (h : all64 l = true) (i : Int) (h0 : 0 ≤ i) (h1 : i < l.length) : I64 (rdOf (0 : Int) l i) := by
  apply (all64_iff l).mp h
  unfold rdOf
  have : i.toNat < l.length := by omega
  rw [List.getD_eq_getElem?_getD, List.getElem?_eq_getElem this]
  exact List.getElem_mem _

def regcertref09_Step.f (a0_0 a0_1 : Int) (l0_2 : List S50) (a1_0 a1_1 a1_2 a1_3 : Int) (l1_4 l1_5 l1_6 : List Int) (a1_7 : Int) : Option (Int × Int × Int × Int × List Int × List Int × List Int × Int) :=
  if l1_5 = [] ∧ l1_4.length < 17592186044416 ∧ l1_6.length < 17592186044416 ∧ all64 l1_4 = true then
    (if a1_0 = 0 then
      (if a1_2 ≤ ((rd_T50 l0_2 a1_1).f0).length then (stepP l0_2 (PS.mk a1_0 a1_1 a1_2 a1_3 l1_4 l1_6 a1_7)).bind fun s => some (s.st, s.blk, s.at_, s.val, s.regs, [], s.trace, s.steps) else none)
     else some (a1_0, a1_1, a1_2, a1_3, l1_4, [], l1_6, a1_7))
  else none

theorem regcertref09_Step.calls (a0_0 : Int) (a0_1 : Int) (A0_2 : Option Addr) (c0_2 : Nat) (l0_2 : List (S50)) (a1_0 : Int) (a1_1 : Int) (a1_2 : Int) (a1_3 : Int) (A1_4 : Option Addr) (c1_4 : Nat) (l1_4 : List Int) (A1_5 : Option Addr) (c1_5 : Nat) (l1_5 : List Int) (A1_6 : Option Addr) (c1_6 : Nat) (l1_6 : List Int) (a1_7 : Int)
    (r1 : Int) (r2 : Int) (r3 : Int) (r4 : Int) (r5 : List Int) (r6 : List Int) (r7 : List Int) (r8 : Int) (w : World)
    (hr0_2 : Kd.C k50 w A0_2 l0_2.length l0_2) (hc0_2 : l0_2.length ≤ c0_2) (hr1_4 : Kd.C (Kd.int .i64) w A1_4 l1_4.length l1_4) (hc1_4 : l1_4.length ≤ c1_4) (hr1_5 : Kd.C (Kd.int .i64) w A1_5 l1_5.length l1_5) (hc1_5 : l1_5.length ≤ c1_5) (hr1_6 : Kd.C (Kd.int .i64) w A1_6 l1_6.length l1_6) (hc1_6 : l1_6.length ≤ c1_6)
    (h : regcertref09_Step.f a0_0 a0_1 l0_2 a1_0 a1_1 a1_2 a1_3 l1_4 l1_5 l1_6 a1_7 = some (r1, r2, r3, r4, r5, r6, r7, r8)) :
    Calls Try.prog 43 #[.agg #[.int .i64 a0_0, .int .i64 a0_1, .slice A0_2 l0_2.length c0_2], .agg #[.int .i64 a1_0, .int .i64 a1_1, .int .i64 a1_2, .int .i64 a1_3, .slice A1_4 l1_4.length c1_4, .slice A1_5 l1_5.length c1_5, .slice A1_6 l1_6.length c1_6, .int .i64 a1_7]] w fun e w' =>
      ∃ v4_ v5_ v6_ : Value, e = .returned (.agg #[.int .i64 r1, .int .i64 r2, .int .i64 r3, .int .i64 r4, v4_, v5_, v6_, .int .i64 r8]) ∧
        Kd.R (Kd.int .i64) 2 w' w.heap.size (fun k_ => some k_ ≠ (v5_ : Value).ownBlock ∧ some k_ ≠ (v6_ : Value).ownBlock) v4_ r5 ∧
        Kd.R (Kd.int .i64) 2 w' w.heap.size (fun k_ => some k_ ≠ (v4_ : Value).ownBlock ∧ some k_ ≠ (v6_ : Value).ownBlock) v5_ r6 ∧
        Kd.R (Kd.int .i64) 2 w' w.heap.size (fun k_ => some k_ ≠ (v4_ : Value).ownBlock ∧ some k_ ≠ (v5_ : Value).ownBlock) v6_ r7 ∧ Below w.heap.size w w' := by
  unfold regcertref09_Step.f at h
  by_cases hc : l1_5 = [] ∧ l1_4.length < 17592186044416 ∧ l1_6.length < 17592186044416 ∧ all64 l1_4 = true
  · rw [if_pos hc] at h
    obtain ⟨h5, hl4, hl6, h64⟩ := hc
    subst h5
    by_cases h0 : a1_0 = 0
    · rw [if_pos h0] at h
      by_cases hle : a1_2 ≤ ((rd_T50 l0_2 a1_1).f0).length
      · rw [if_pos hle] at h
        obtain ⟨s, hs, hq⟩ := Option.bind_eq_some_iff.mp h
        injection hq with hq
        injection hq with q1 hq
        injection hq with q2 hq
        injection hq with q3 hq
        injection hq with q4 hq
        injection hq with q5 hq
        injection hq with q6 hq
        injection hq with q7 q8
        subst q1 q2 q3 q4 q5 q6 q7 q8
        have hst : (a1_0 != 0) = false := by rw [h0]; rfl
        unfold stepP at hs
        dsimp only at hs
        by_cases hb : 0 ≤ a1_1 ∧ a1_1 < l0_2.length
        · rw [if_pos hb] at hs
          by_cases ha : a1_2 < ((rd_T50 l0_2 a1_1).f0).length
          · rw [if_pos ha] at hs
            have hat : (a1_2 == (((rd_T50 l0_2 a1_1).f0).length : Int)) = false := beq_eq_false_iff_ne.mpr (by omega)
            by_cases ha0 : 0 ≤ a1_2
            · rw [if_pos ha0] at hs
              unfold instrP at hs
              dsimp only at hs
              by_cases h17 : (rd_T97 (rd_T50 l0_2 a1_1).f0 a1_2).f0 = 17
              · rw [if_pos h17] at hs
                by_cases hr : 0 ≤ (rd_T97 (rd_T50 l0_2 a1_1).f0 a1_2).f2 ∧ (rd_T97 (rd_T50 l0_2 a1_1).f0 a1_2).f2 < l1_4.length ∧ (l1_6.length + 1) * 8 ≤ 140737488355328
                · rw [if_pos hr] at hs
                  exact ref_emit w a0_0 a0_1 A0_2 A1_4 A1_5 A1_6 c0_2 c1_4 c1_5 c1_6 l0_2 a1_0 a1_1 a1_2 a1_3 l1_4 l1_6 a1_7 hr1_4 hc1_4 hr1_5 hc1_5 hr1_6 hc1_6 hl4 hl6 hst hr0_2 hb.1 hb.2 s hat ha0 ha (beq_iff_eq.mpr h17) hr.1 hr.2.1 (Option.some.inj hs).symm
                · rw [if_neg hr] at hs
                  cases hs
              · rw [if_neg h17] at hs
                by_cases hr : 0 ≤ (rd_T97 (rd_T50 l0_2 a1_1).f0 a1_2).f2 ∧ (rd_T97 (rd_T50 l0_2 a1_1).f0 a1_2).f2 < l1_4.length ∧ 0 ≤ (rd_T97 (rd_T50 l0_2 a1_1).f0 a1_2).f3 ∧ (rd_T97 (rd_T50 l0_2 a1_1).f0 a1_2).f3 < l1_4.length
                · rw [if_pos hr] at hs
                  obtain ⟨kk, hk⟩ := X.eval_ref (rd_T97 (rd_T50 l0_2 a1_1).f0 a1_2).f0 (rdOf (0 : Int) l1_4 (rd_T97 (rd_T50 l0_2 a1_1).f0 a1_2).f2) (rdOf (0 : Int) l1_4 (rd_T97 (rd_T50 l0_2 a1_1).f0 a1_2).f3) (rd_T97 (rd_T50 l0_2 a1_1).f0 a1_2).f4 (rd64 h64 _ hr.1 hr.2.1) (rd64 h64 _ hr.2.2.1 hr.2.2.2)
                  have hev := hk kk (Nat.le_refl _)
                  obtain ⟨⟨rv, rok⟩, hev2, hs⟩ := Option.bind_eq_some_iff.mp hs
                  unfold X.alu_Eval.f at hev2
                  rw [Option.some.inj hev2] at hev
                  dsimp only at hs
                  cases rok
                  · rw [if_neg (by simp)] at hs
                    exact ref_stuck w a0_0 a0_1 A0_2 A1_4 A1_5 A1_6 c0_2 c1_4 c1_5 c1_6 l0_2 a1_0 a1_1 a1_2 a1_3 l1_4 l1_6 a1_7 hr1_4 hc1_4 hr1_5 hc1_5 hr1_6 hc1_6 hl4 hl6 hst hr0_2 hb.1 hb.2 s hat ha0 ha (beq_eq_false_iff_ne.mpr h17) hr.1 hr.2.1 hr.2.2.1 hr.2.2.2 rv kk hev (Option.some.inj hs).symm
                  · rw [if_pos rfl] at hs
                    by_cases hd : 0 ≤ (rd_T97 (rd_T50 l0_2 a1_1).f0 a1_2).f1 ∧ (rd_T97 (rd_T50 l0_2 a1_1).f0 a1_2).f1 < l1_4.length
                    · rw [if_pos hd] at hs
                      exact ref_value w a0_0 a0_1 A0_2 A1_4 A1_5 A1_6 c0_2 c1_4 c1_5 c1_6 l0_2 a1_0 a1_1 a1_2 a1_3 l1_4 l1_6 a1_7 hr1_4 hc1_4 hr1_5 hc1_5 hr1_6 hc1_6 hl4 hl6 hst hr0_2 hb.1 hb.2 s hat ha0 ha (beq_eq_false_iff_ne.mpr h17) hr.1 hr.2.1 hr.2.2.1 hr.2.2.2 hd.1 hd.2 rv kk hev (Option.some.inj hs).symm
                    · rw [if_neg hd] at hs
                      cases hs
                · rw [if_neg hr] at hs
                  cases hs
            · rw [if_neg ha0] at hs
              cases hs
          · rw [if_neg ha] at hs
            have hat : (a1_2 == (((rd_T50 l0_2 a1_1).f0).length : Int)) = true := beq_iff_eq.mpr (by omega)
            unfold termP at hs
            dsimp only at hs
            by_cases k3 : (rd_T50 l0_2 a1_1).f1.f0 = 3
            · rw [if_pos k3] at hs
              by_cases hr : 0 ≤ (rd_T50 l0_2 a1_1).f1.f1 ∧ (rd_T50 l0_2 a1_1).f1.f1 < l1_4.length
              · rw [if_pos hr] at hs
                exact ref_ret w a0_0 a0_1 A0_2 A1_4 A1_5 A1_6 c0_2 c1_4 c1_5 c1_6 l0_2 a1_0 a1_1 a1_2 a1_3 l1_4 l1_6 a1_7 hr1_4 hc1_4 hr1_5 hc1_5 hr1_6 hc1_6 hl4 hl6 hst hr0_2 hb.1 hb.2 s (Option.some.inj hs).symm hat (beq_iff_eq.mpr k3) hr.1 hr.2
              · rw [if_neg hr] at hs
                cases hs
            · rw [if_neg k3] at hs
              by_cases k2 : (rd_T50 l0_2 a1_1).f1.f0 = 2
              · rw [if_pos k2] at hs
                by_cases hr : 0 ≤ (rd_T50 l0_2 a1_1).f1.f1 ∧ (rd_T50 l0_2 a1_1).f1.f1 < l1_4.length
                · rw [if_pos hr] at hs
                  by_cases hz : rdOf (0 : Int) l1_4 (rd_T50 l0_2 a1_1).f1.f1 = 0
                  · rw [if_pos hz] at hs
                    exact ref_else w a0_0 a0_1 A0_2 A1_4 A1_5 A1_6 c0_2 c1_4 c1_5 c1_6 l0_2 a1_0 a1_1 a1_2 a1_3 l1_4 l1_6 a1_7 hr1_4 hc1_4 hr1_5 hc1_5 hr1_6 hc1_6 hl4 hl6 hst hr0_2 hb.1 hb.2 s (Option.some.inj hs).symm hat (beq_eq_false_iff_ne.mpr k3) (beq_iff_eq.mpr k2) hr.1 hr.2 (beq_iff_eq.mpr hz)
                  · rw [if_neg hz] at hs
                    exact ref_then w a0_0 a0_1 A0_2 A1_4 A1_5 A1_6 c0_2 c1_4 c1_5 c1_6 l0_2 a1_0 a1_1 a1_2 a1_3 l1_4 l1_6 a1_7 hr1_4 hc1_4 hr1_5 hc1_5 hr1_6 hc1_6 hl4 hl6 hst hr0_2 hb.1 hb.2 s (Option.some.inj hs).symm hat (beq_eq_false_iff_ne.mpr k3) (beq_iff_eq.mpr k2) hr.1 hr.2 (beq_eq_false_iff_ne.mpr hz)
                · rw [if_neg hr] at hs
                  cases hs
              · rw [if_neg k2] at hs
                exact ref_go w a0_0 a0_1 A0_2 A1_4 A1_5 A1_6 c0_2 c1_4 c1_5 c1_6 l0_2 a1_0 a1_1 a1_2 a1_3 l1_4 l1_6 a1_7 hr1_4 hc1_4 hr1_5 hc1_5 hr1_6 hc1_6 hl4 hl6 hst hr0_2 hb.1 hb.2 s (Option.some.inj hs).symm hat (beq_eq_false_iff_ne.mpr k3) (beq_eq_false_iff_ne.mpr k2)
        · rw [if_neg hb] at hs
          cases hs
      · rw [if_neg hle] at h
        cases h
    · rw [if_neg h0] at h
      injection h with hq
      injection hq with q1 hq
      injection hq with q2 hq
      injection hq with q3 hq
      injection hq with q4 hq
      injection hq with q5 hq
      injection hq with q6 hq
      injection hq with q7 q8
      subst q1 q2 q3 q4 q5 q6 q7 q8
      exact ref_stay w a0_0 a0_1 A0_2 A1_4 A1_5 A1_6 c0_2 c1_4 c1_5 c1_6 l0_2 a1_0 a1_1 a1_2 a1_3 l1_4 l1_6 a1_7 hr1_4 hc1_4 hr1_5 hc1_5 hr1_6 hc1_6 hl4 hl6 (by simpa using h0)
  · rw [if_neg hc] at h
    cases h
end Go.Proofs.Ytgkmagfajalnhaa.Y
