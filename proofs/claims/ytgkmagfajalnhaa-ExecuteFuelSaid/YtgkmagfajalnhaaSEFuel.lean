/-
  ExecuteFuel.
-/
import Derived.Test.YtgkmagfajalnhaaSERuns
import Derived.Test.YtgkmagfajalnhaaSERowExecuteFuel
namespace Go.Proofs.Ytgkmagfajalnhaa.E
open Go.RowKit Go.Proofs.YtgkmagfajalnhaaW.PrintWords Go.Proofs.YtgkmagfajalnhaaW.PrintLast Go.Proofs.YtgkmagfajalnhaaW.PrintMore Num
set_option linter.unusedVariables false
set_option linter.unusedSimpArgs false

theorem prefix_true (a b : List Int) (hl : a.length ≤ 1000000) (h : a <+: b) : Ev (fun k => regcertref09_Prefix.f k a b) true := by
  have hlen := h.length_le
  have ht : b.take ((a.length : Int)).toNat = a := by
    rw [Int.toNat_natCast]
    exact (List.prefix_iff_eq_take.mp h).symm
  refine Ev.congr (fun k => by rw [regcertref09_Prefix.f, ht]) ?_
  refine Ev.pos (by omega) (Ev.pos (by omega) ?_)
  exact Ev.bind (values_refl a hl) (Ev.now _)
theorem fuel_pure (x0 : S63) (l1 : List Int) (a2 a3 : Int) (h64 : I64L x0.f3) (h2 : 0 ≤ a2 ∧ a2 ≤ 65535) (h3 : 0 ≤ a3 ∧ a3 ≤ 65535) : Ev (fun k => regcertlaw10_ExecuteFuel.f k x0.f0 x0.f1 x0.f2 x0.f3 l1 a2 a3) true := by
  obtain ⟨a0, a1, a2', l⟩ := x0
  dsimp only at h64 ⊢
  refine Ev.congr (fun k => by rw [regcertlaw10_ExecuteFuel.f]) ?_
  refine Ev.bind awake10 (Ev.pos rfl ?_)
  obtain ⟨b, hb, hv⟩ := right_evs a0 a1 a2' l h64 l1 0
  have out : Ev (fun k => regcertlaw10_ExecuteFuel.j0 k l1 a2 a3 true a0 a1 a2' l) true := by
    refine Ev.step (fun k => by rw [regcertlaw10_ExecuteFuel.j0]) ?_
    exact Ev.pos rfl (Ev.bind awake10 (Ev.now _))
  refine Ev.bind hb ?_
  by_cases hbt : b = true
  · refine Ev.pos hbt ?_
    obtain ⟨V, v0, v1, _, _⟩ := hv hbt
    by_cases hl : (l1.length : Int) = a0
    · rw [show ((l1.length : Int) != a0) = false by simp [hl]]
      refine Ev.step (fun k => by rw [regcertlaw10_ExecuteFuel.j0]) ?_
      refine Ev.neg (by simp) ?_
      have w2 : wrap64 a2 = a2 := w64s (by omega) (by omega)
      have w3 : wrap64 a3 = a3 := w64s (by omega) (by omega)
      rw [w2, w3]
      have e2 : Int.tmod a2 200 = a2 % 200 := Int.tmod_eq_emod_of_nonneg h2.1
      have e3 : Int.tmod a3 200 = a3 % 200 := Int.tmod_eq_emod_of_nonneg h3.1
      rw [e2, e3]
      have n0 : 0 ≤ a2 % 200 ∧ a2 % 200 < 200 := by omega
      have n1 : 0 ≤ a3 % 200 ∧ a3 % 200 < 200 := by omega
      generalize a2 % 200 = n at n0
      generalize a3 % 200 = d at n1
      rw [show wrap64 (n + d) = n + d from w64s (by omega) (by omega)]
      obtain ⟨r, er, R, k1, q1⟩ := exec_ev V hl v1 n0.1 (by omega)
      obtain ⟨s, es, S, k2, q2⟩ := exec_ev V hl v1 (show 0 ≤ n + d by omega) (by omega)
      obtain ⟨k3, q3⟩ := exec_factor l (show n ≤ n + d by omega) k1 _ _ q1 k2 _ q2
      have F := exec_ran V (m := n + d) (by omega) ((n + d - r.steps).toNat) r R.inv (by have := R.upto; omega) (Nat.le_refl _)
      obtain ⟨s1, f1, S1⟩ := F
      have hs1 : s1 = s := by
        have x1 := execLoop_le l (n + d) (Nat.le_max_left k3 ((n + d - r.steps).toNat + 2)) q3
        have x2 := execLoop_le l (n + d) (Nat.le_max_right k3 ((n + d - r.steps).toNat + 2)) f1
        rw [x1] at x2
        exact (Option.some.inj x2).symm
      subst hs1
      have tr1 : r.trace.length ≤ 1000000 := by have := R.inv.trace; have := R.upto; omega
      have rg1 : r.regs.length ≤ 1000000 := by have := R.inv.regs; have := V.regs1; omega
      have sl1 : r.slots.length ≤ 1000000 := by have := R.inv.slots; have := V.slots1; omega
      refine Ev.bind er (Ev.bind es ?_)
      refine Ev.neg (by have := R.upto; dsimp only; omega) (Ev.neg (by have := S.upto; dsimp only; omega) ?_)
      refine Ev.bind (prefix_true r.trace s1.trace tr1 S1.trace) (Ev.pos rfl ?_)
      have last : Ev (fun k => regcertlaw10_ExecuteFuel.j1 k false r.st r.blk r.at_ r.val r.regs r.slots r.trace r.steps s1.st s1.blk s1.at_ s1.val s1.regs s1.slots s1.trace s1.steps) true := by
        refine Ev.step (fun k => by rw [regcertlaw10_ExecuteFuel.j1]) ?_
        refine Ev.neg (by simp) ?_
        by_cases h0 : r.st = 0
        · exact Ev.pos h0 (Ev.pos S1.steps (Ev.now _))
        · obtain rfl := exec_done l h0 q3
          exact Ev.neg h0 (Ev.bind (same_refl _ _ _ _ _ _ _ _ rg1 sl1 tr1) (Ev.now _))
      by_cases h0 : r.st = 0
      · refine Ev.pos h0 ?_
        have := R.full h0
        rw [show (r.steps != n) = false by simp [this]]
        exact last
      · exact Ev.neg h0 last
    · rw [show ((l1.length : Int) != a0) = true by simp [hl]]
      exact out
  · exact Ev.neg hbt out
end Go.Proofs.Ytgkmagfajalnhaa.E
namespace Go.Proofs.Ytgkmagfajalnhaa
theorem executeFuel_holds : Rows.ExecuteFuelSaid := executeFuel.over fun x0 l1 a2 a3 h0 _ h2 h3 => (E.fuel_pure x0 l1 a2 a3 (E.good_loc h0.2.2.2.2) (bounds_u16 h2) (bounds_u16 h3)).rounds
end Go.Proofs.Ytgkmagfajalnhaa
